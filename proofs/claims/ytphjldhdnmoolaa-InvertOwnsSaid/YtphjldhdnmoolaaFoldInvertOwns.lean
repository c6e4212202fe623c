/- For every input InvertOwns answers true: the turned operation is new memory. -/
import Derived.Test.YtphjldhdnmoolaaJInvertOwns5
import Derived.Test.YtphjldhdnmoolaaRows
set_option linter.unusedVariables false
set_option linter.unusedSimpArgs false
/- For every input InvertOwns answers true: the turned operation is new memory. -/
namespace Go.Proofs.Ytphjldhdnmoolaa.invertOwns
open Go Go.ChangeShapes Go.WideShapes Go.ChangeAt Go.RowKit Go.Joins Go.Proofs.Ytphjldhdnmoolaa.A
set_option maxRecDepth 100000 in
theorem lifted (os : Os) (started : os.Started) (H : Type) (enc : TypeId × Value → H) :
    ReturnsInHanded {} Try.checked os 13 .any (Rows.invertOwnsSpec.pre6 enc Try.prog Try.f13 Rows.invertOwnsRow.domain false) (Rows.invertOwnsSpec.post enc Try.prog Try.f13 false true false false) := by
  refine returnsInHanded_of_change_sized (C := Try.checked) own started (by kernel_rfl) Try.func13
    (ChangeSpec.witness6 (enc := enc) (C := Try.checked) false ⟨#[], #[.string ByteArray.empty], []⟩ 8 (by kernel_rfl) (by kernel_rfl) (by kernel_rfl) (by kernel_rfl)) ?_
  intro W base args ds gs before hval0 hW hcnd hsz0 _
  have hsz : (DataW.weightsEach Try.prog (Try.f13.params.toList ++ Rows.invertOwnsSpec.plain.varTypes Try.prog) (ds ++ gs)).all (· ≤ reachBytes) = true := hsz0
  have hval : ∀ (j : Nat) t v, Try.f13.params[j]? = some t → args[j]? = some v → Value.okWide Try.prog W .any base t v := hval0
  have hW' := hW
  obtain ⟨p, q, hA0, hV, rfl, hfz, hnd⟩ := hW
  have hA : DataW.TrodAll enc Try.prog W 0 (fun _ => true) true Try.f13.params.toList args.toList ds p := hA0
  rw [Try.params13] at hA hval hsz
  obtain ⟨v0, vs0, d0, ds0, p0, q0, hargs, rfl, rfl, h0, r0⟩ := trodAll_cons hA
  obtain ⟨rfl, rfl, rfl⟩ := trodAll_nil r0
  obtain rfl : args = #[v0] := by cases args; simp_all
  obtain ⟨rfl, rfl⟩ := trodVars_none hV
  have k0 := h0
  obtain ⟨a0, rfl, rfl, rfl, w0⟩ := open_string Try.underlying9 (hval 0 9 v0 rfl rfl) h0
  clear hA0 hval0 hsz0
  refine (calls_of_sim (iowns_law _ _) (relL_cons (rel_v _ _ _) (relL_nil _ _))).mono fun e W' ⟨he, bel⟩ => ?_
  subst he
  exact ⟨_, rfl, _, _, _, [], _, [], hW', trodAll_mk1 (shut_bool Try.underlying4 _), (trodAll_cons_mk (Below.trod laidOut (by kernel_rfl) (of_decide_eq_true (by kernel_rfl)) k0 bel (places_lt k0)) trodAll_mk0), rfl, bel.frame _, fun h => by cases h⟩
set_option maxRecDepth 100000
theorem rec1 : Try.prog.recurses 13 = true := fact_recurses 13 90 (by kernel_rfl) (by kernel_rfl) (by kernel_rfl)
theorem q0 : (Rows.invertOwnsRow.wf (OpenSpec.ofChange Rows.invertOwnsSpec)) = true := by kernel_rfl
theorem q3 : (Try.f13.params.all (Try.prog.readableRec ·)) = true := by kernel_rfl
theorem q4 : (namedTie Try.prog Rows.invertOwnsRow.named Rows.invertOwnsSpec.vars) = true := by kernel_rfl
theorem q5 : (Rows.invertOwnsRow.stops == []) = true := by kernel_rfl
theorem q7 : (Rows.invertOwnsRow.knobs == []) = true := by kernel_rfl
theorem q9 : (Rows.invertOwnsRow.inPlace == Try.prog.inPlace 13) = true := by kernel_rfl
theorem q10 : (Rows.invertOwnsRow.unfollowed == Try.prog.unfollowed 13) = true := by kernel_rfl
theorem q11 : (Rows.invertOwnsRow.recurses == Try.prog.recurses 13) = true := by rw [rec1]; kernel_rfl
theorem q12 : (Rows.invertOwnsRow.named == Try.prog.varsNamed 13) = true := by kernel_rfl
theorem q13 : (Rows.invertOwnsRow.maps == (Try.f13.params.toList ++ Rows.invertOwnsSpec.plain.varTypes Try.prog).any (Try.prog.mapsRec ·)) = true := by kernel_rfl
theorem q14 : (Rows.invertOwnsRow.ifaces == (Try.f13.params.toList ++ Rows.invertOwnsSpec.plain.varTypes Try.prog).any (Try.prog.ifacesRec ·)) = true := by kernel_rfl
theorem q15 : (Rows.invertOwnsRow.mapsOut == Try.prog.mapsAmong Try.f13.resultTypes.toList) = true := by kernel_rfl
theorem q16 : (Rows.invertOwnsRow.loops == (Try.f13.params.toList ++ Rows.invertOwnsSpec.plain.varTypes Try.prog).any (Try.prog.loopsFrom ·)) = true := by kernel_rfl
theorem q17 : (Rows.invertOwnsRow.wideKeys == (Try.f13.params.toList ++ Rows.invertOwnsSpec.plain.varTypes Try.prog ++ Try.f13.resultTypes.toList).any (Try.prog.wideKeysFrom ·)) = true := by kernel_rfl
theorem q18 : (Rows.invertOwnsSpec.vars.all (Try.prog.varReadable ·)) = true := by kernel_rfl
theorem q19 : (Try.f13.resultTypes.all (fun t => Try.prog.readableRec t && decide (t < Try.prog.types.size))) = true := by kernel_rfl
theorem q20 : (Rows.invertOwnsRow.ifacesOut == Try.f13.resultTypes.toList.any (Try.prog.ifacesRec ·)) = true := by kernel_rfl
theorem q21 : (Rows.invertOwnsRow.loopsOut == Try.f13.resultTypes.toList.any (Try.prog.loopsFrom ·)) = true := by kernel_rfl
theorem q23 : (Rows.invertOwnsRow.shortTexts.isNone) = true := by kernel_rfl
theorem q28 : (Rows.invertOwnsRow.kinds == (if Rows.invertOwnsRow.domain.isEmpty then [] else Try.f13.params.toList.map fun t => match Try.prog.underlying t with | some (.int k) => some k | _ => none)) = true := by kernel_rfl
theorem q29 : (Rows.invertOwnsRow.pinned == Rows.invertOwnsRow.pinnedBy) = true := by kernel_rfl
theorem q30 : (Rows.invertOwnsRow.veiled == (Try.f13.params.toList ++ Rows.invertOwnsSpec.plain.varTypes Try.prog ++ Try.f13.resultTypes.toList).any (Try.prog.veiledRec ·)) = true := by kernel_rfl
theorem q31 : (Rows.invertOwnsRow.veiledFits Try.prog Try.f13.params.toList (Try.f13.params.toList ++ Rows.invertOwnsSpec.plain.varTypes Try.prog ++ Try.f13.resultTypes.toList)) = true := by kernel_rfl
theorem joined : joinedFacts Try.prog 13 Try.f13 Rows.invertOwnsSpec Rows.invertOwnsRow = true := (and2 (and2 (and2 (and2 (and2 (and2 (and2 (and2 (and2 (and2 (and2 (and2 (and2 (and2 (and2 (and2 (and2 (and2 (and2 (and2 (and2 (and2 (and2 (and2 (and2 (and2 (and2 (and2 (and2 (and2 (and2 q0 fact_laid) fact_maps) q3) q4) q5) fact_stops) q7) fact_knobs) q9) q10) q11) q12) q13) q14) q15) q16) q17) q18) q19) q20) q21) fact_keys) q23) fact_heard) fact_enter) fact_lifted) fact_make) q28) q29) q30) q31)
theorem over : Rows.invertOwnsRow.holds Try.pinned (OpenSpec.ofChange Rows.invertOwnsSpec) :=
  OpenClaim.holds_of_wide 13 Try.f13 rfl rfl rfl rfl rfl rfl rfl ⟨rfl, rfl, rfl, rfl, rfl⟩ rfl rfl rfl rfl rfl (by kernel_rfl) Try.func13 joined
    (of_decide_eq_true (by kernel_rfl)) (by unfold Func.isWrapper; first | (rw [if_pos (by decide +kernel)]; kernel_rfl) | (rw [if_neg (by decide +kernel)]; exact ⟨rfl, rfl⟩))
    (fun os started H enc _ => lifted os started H enc)
theorem proved : Rows.InvertOwnsSaid := over
#print axioms proved
end Go.Proofs.Ytphjldhdnmoolaa.invertOwns
namespace Go.Proofs.Ytphjldhdnmoolaa
/-- The row, under a short name, for the claim. -/
theorem invertOwns_holds : Rows.InvertOwnsSaid := invertOwns.proved
end Go.Proofs.Ytphjldhdnmoolaa
