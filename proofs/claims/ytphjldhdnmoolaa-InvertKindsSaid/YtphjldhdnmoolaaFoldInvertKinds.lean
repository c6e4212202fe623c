/- For every input InvertKinds answers true: just those operations can be turned round that set no cell, and read none in a statement. -/
import Derived.Test.YtphjldhdnmoolaaJBase6
import Derived.Test.YtphjldhdnmoolaaRows
set_option linter.unusedVariables false
set_option linter.unusedSimpArgs false
/- For every input InvertKinds answers true: just those operations can be turned round that set no cell, and read none in a statement. -/
namespace Go.Proofs.Ytphjldhdnmoolaa.invertKinds
open Go Go.ChangeShapes Go.WideShapes Go.ChangeAt Go.RowKit Go.Joins Go.Proofs.Ytphjldhdnmoolaa.A
set_option maxRecDepth 100000 in
theorem lifted (os : Os) (started : os.Started) (H : Type) (enc : TypeId × Value → H) :
    ReturnsInHanded {} Try.checked os 14 .any (Rows.invertKindsSpec.pre6 enc Try.prog Try.f14 Rows.invertKindsRow.domain false) (Rows.invertKindsSpec.post enc Try.prog Try.f14 false true false false) := by
  refine returnsInHanded_of_change_sized (C := Try.checked) own started (by kernel_rfl) Try.func14
    (ChangeSpec.witness6 (enc := enc) (C := Try.checked) false ⟨#[], #[.string ByteArray.empty], []⟩ 8 (by kernel_rfl) (by kernel_rfl) (by kernel_rfl) (by kernel_rfl)) ?_
  intro W base args ds gs before hval0 hW hcnd hsz0 _
  have hsz : (DataW.weightsEach Try.prog (Try.f14.params.toList ++ Rows.invertKindsSpec.plain.varTypes Try.prog) (ds ++ gs)).all (· ≤ reachBytes) = true := hsz0
  have hval : ∀ (j : Nat) t v, Try.f14.params[j]? = some t → args[j]? = some v → Value.okWide Try.prog W .any base t v := hval0
  have hW' := hW
  obtain ⟨p, q, hA0, hV, rfl, hfz, hnd⟩ := hW
  have hA : DataW.TrodAll enc Try.prog W 0 (fun _ => true) true Try.f14.params.toList args.toList ds p := hA0
  rw [Try.params14] at hA hval hsz
  obtain ⟨v0, vs0, d0, ds0, p0, q0, hargs, rfl, rfl, h0, r0⟩ := trodAll_cons hA
  obtain ⟨rfl, rfl, rfl⟩ := trodAll_nil r0
  obtain rfl : args = #[v0] := by cases args; simp_all
  obtain ⟨rfl, rfl⟩ := trodVars_none hV
  have k0 := h0
  obtain ⟨a0, rfl, rfl, rfl, w0⟩ := open_string Try.underlying9 (hval 0 9 v0 rfl rfl) h0
  clear hA0 hval0 hsz0
  refine (calls_of_sim (ikinds_law _ _) (relL_cons (rel_v _ _ _) (relL_nil _ _))).mono fun e W' ⟨he, bel⟩ => ?_
  subst he
  exact ⟨_, rfl, _, _, _, [], _, [], hW', trodAll_mk1 (shut_bool Try.underlying4 _), (trodAll_cons_mk (Below.trod laidOut (by kernel_rfl) (of_decide_eq_true (by kernel_rfl)) k0 bel (places_lt k0)) trodAll_mk0), rfl, bel.frame _, fun h => by cases h⟩
set_option maxRecDepth 100000
theorem rec1 : Try.prog.recurses 14 = true := fact_recurses 14 90 (by kernel_rfl) (by kernel_rfl) (by kernel_rfl)
theorem q0 : (Rows.invertKindsRow.wf (OpenSpec.ofChange Rows.invertKindsSpec)) = true := by kernel_rfl
theorem q3 : (Try.f14.params.all (Try.prog.readableRec ·)) = true := by kernel_rfl
theorem q4 : (namedTie Try.prog Rows.invertKindsRow.named Rows.invertKindsSpec.vars) = true := by kernel_rfl
theorem q5 : (Rows.invertKindsRow.stops == []) = true := by kernel_rfl
theorem q7 : (Rows.invertKindsRow.knobs == []) = true := by kernel_rfl
theorem q9 : (Rows.invertKindsRow.inPlace == Try.prog.inPlace 14) = true := by kernel_rfl
theorem q10 : (Rows.invertKindsRow.unfollowed == Try.prog.unfollowed 14) = true := by kernel_rfl
theorem q11 : (Rows.invertKindsRow.recurses == Try.prog.recurses 14) = true := by rw [rec1]; kernel_rfl
theorem q12 : (Rows.invertKindsRow.named == Try.prog.varsNamed 14) = true := by kernel_rfl
theorem q13 : (Rows.invertKindsRow.maps == (Try.f14.params.toList ++ Rows.invertKindsSpec.plain.varTypes Try.prog).any (Try.prog.mapsRec ·)) = true := by kernel_rfl
theorem q14 : (Rows.invertKindsRow.ifaces == (Try.f14.params.toList ++ Rows.invertKindsSpec.plain.varTypes Try.prog).any (Try.prog.ifacesRec ·)) = true := by kernel_rfl
theorem q15 : (Rows.invertKindsRow.mapsOut == Try.prog.mapsAmong Try.f14.resultTypes.toList) = true := by kernel_rfl
theorem q16 : (Rows.invertKindsRow.loops == (Try.f14.params.toList ++ Rows.invertKindsSpec.plain.varTypes Try.prog).any (Try.prog.loopsFrom ·)) = true := by kernel_rfl
theorem q17 : (Rows.invertKindsRow.wideKeys == (Try.f14.params.toList ++ Rows.invertKindsSpec.plain.varTypes Try.prog ++ Try.f14.resultTypes.toList).any (Try.prog.wideKeysFrom ·)) = true := by kernel_rfl
theorem q18 : (Rows.invertKindsSpec.vars.all (Try.prog.varReadable ·)) = true := by kernel_rfl
theorem q19 : (Try.f14.resultTypes.all (fun t => Try.prog.readableRec t && decide (t < Try.prog.types.size))) = true := by kernel_rfl
theorem q20 : (Rows.invertKindsRow.ifacesOut == Try.f14.resultTypes.toList.any (Try.prog.ifacesRec ·)) = true := by kernel_rfl
theorem q21 : (Rows.invertKindsRow.loopsOut == Try.f14.resultTypes.toList.any (Try.prog.loopsFrom ·)) = true := by kernel_rfl
theorem q23 : (Rows.invertKindsRow.shortTexts.isNone) = true := by kernel_rfl
theorem q28 : (Rows.invertKindsRow.kinds == (if Rows.invertKindsRow.domain.isEmpty then [] else Try.f14.params.toList.map fun t => match Try.prog.underlying t with | some (.int k) => some k | _ => none)) = true := by kernel_rfl
theorem q29 : (Rows.invertKindsRow.pinned == Rows.invertKindsRow.pinnedBy) = true := by kernel_rfl
theorem q30 : (Rows.invertKindsRow.veiled == (Try.f14.params.toList ++ Rows.invertKindsSpec.plain.varTypes Try.prog ++ Try.f14.resultTypes.toList).any (Try.prog.veiledRec ·)) = true := by kernel_rfl
theorem q31 : (Rows.invertKindsRow.veiledFits Try.prog Try.f14.params.toList (Try.f14.params.toList ++ Rows.invertKindsSpec.plain.varTypes Try.prog ++ Try.f14.resultTypes.toList)) = true := by kernel_rfl
theorem joined : joinedFacts Try.prog 14 Try.f14 Rows.invertKindsSpec Rows.invertKindsRow = true := (and2 (and2 (and2 (and2 (and2 (and2 (and2 (and2 (and2 (and2 (and2 (and2 (and2 (and2 (and2 (and2 (and2 (and2 (and2 (and2 (and2 (and2 (and2 (and2 (and2 (and2 (and2 (and2 (and2 (and2 (and2 q0 fact_laid) fact_maps) q3) q4) q5) fact_stops) q7) fact_knobs) q9) q10) q11) q12) q13) q14) q15) q16) q17) q18) q19) q20) q21) fact_keys) q23) fact_heard) fact_enter) fact_lifted) fact_make) q28) q29) q30) q31)
theorem over : Rows.invertKindsRow.holds Try.pinned (OpenSpec.ofChange Rows.invertKindsSpec) :=
  OpenClaim.holds_of_wide 14 Try.f14 rfl rfl rfl rfl rfl rfl rfl ⟨rfl, rfl, rfl, rfl, rfl⟩ rfl rfl rfl rfl rfl (by kernel_rfl) Try.func14 joined
    (of_decide_eq_true (by kernel_rfl)) (by unfold Func.isWrapper; first | (rw [if_pos (by decide +kernel)]; kernel_rfl) | (rw [if_neg (by decide +kernel)]; exact ⟨rfl, rfl⟩))
    (fun os started H enc _ => lifted os started H enc)
theorem proved : Rows.InvertKindsSaid := over
#print axioms proved
end Go.Proofs.Ytphjldhdnmoolaa.invertKinds
namespace Go.Proofs.Ytphjldhdnmoolaa
/-- The row, under a short name, for the claim. -/
theorem invertKinds_holds : Rows.InvertKindsSaid := invertKinds.proved
end Go.Proofs.Ytphjldhdnmoolaa
