/- For every input CheckCalls answers true: how many arguments a call has. -/
import Derived.Test.YtphjldhdnmoolaaJCheckCalls5
import Derived.Test.YtphjldhdnmoolaaRows
set_option linter.unusedVariables false
set_option linter.unusedSimpArgs false
/- For every input CheckCalls answers true: how many arguments a call has. -/
namespace Go.Proofs.Ytphjldhdnmoolaa.checkCalls
open Go Go.ChangeShapes Go.WideShapes Go.ChangeAt Go.RowKit Go.Joins Go.Proofs.Ytphjldhdnmoolaa.A
set_option maxRecDepth 100000 in
theorem lifted (os : Os) (started : os.Started) (H : Type) (enc : TypeId × Value → H) :
    ReturnsInHanded {} Try.checked os 11 .any (Rows.checkCallsSpec.pre6 enc Try.prog Try.f11 Rows.checkCallsRow.domain false) (Rows.checkCallsSpec.post enc Try.prog Try.f11 false true false false) := by
  refine returnsInHanded_of_change_sized (C := Try.checked) own started (by kernel_rfl) Try.func11
    (ChangeSpec.witness6 (enc := enc) (C := Try.checked) false ⟨#[], #[.int .i64 0, .slice none 0 0], []⟩ 8 (by kernel_rfl) (by kernel_rfl) (by kernel_rfl) (by kernel_rfl)) ?_
  intro W base args ds gs before hval0 hW hcnd hsz0 _
  have hsz : (DataW.weightsEach Try.prog (Try.f11.params.toList ++ Rows.checkCallsSpec.plain.varTypes Try.prog) (ds ++ gs)).all (· ≤ reachBytes) = true := hsz0
  have hval : ∀ (j : Nat) t v, Try.f11.params[j]? = some t → args[j]? = some v → Value.okWide Try.prog W .any base t v := hval0
  have hW' := hW
  obtain ⟨p, q, hA0, hV, rfl, hfz, hnd⟩ := hW
  have hA : DataW.TrodAll enc Try.prog W 0 (fun _ => true) true Try.f11.params.toList args.toList ds p := hA0
  rw [Try.params11] at hA hval hsz
  obtain ⟨v0, vs0, d0, ds0, p0, q0, hargs, rfl, rfl, h0, r0⟩ := trodAll_cons hA
  obtain ⟨v1, vs1, d1, ds1, p1, q1, rfl, rfl, rfl, h1, r1⟩ := trodAll_cons r0
  obtain ⟨rfl, rfl, rfl⟩ := trodAll_nil r1
  obtain rfl : args = #[v0, v1] := by cases args; simp_all
  obtain ⟨rfl, rfl⟩ := trodVars_none hV
  obtain ⟨a0, rfl, rfl, rfl, w0⟩ := open_int Try.underlying3 (hval 0 3 v0 rfl rfl) h0
  have k1 := h1
  obtain ⟨fu1, hf1⟩ := h1
  obtain ⟨A1, l1, c1, hcs1, lc1, hC1, hw1, sz1⟩ := rel_ints Try.underlying37 Try.underlying3 (by kernel_rfl) hf1 hsz (j := 1) (t := 37) rfl rfl (B := 8) (by kernel_rfl)
  obtain ⟨aa1, ln1, cp1, rfl⟩ := okWide_slice Try.underlying37 (hval 1 37 v1 rfl rfl)
  simp only [Value.cells, List.cons.injEq, and_true, Value.slice.injEq] at hcs1
  obtain ⟨rfl, rfl, rfl⟩ := hcs1
  clear hA0 hval0 hsz0
  refine (calls_of_sim (calls_law _ _ _) (relL_cons (rel_v _ _ _) (relL_cons hC1 (relL_nil _ _)))).mono fun e W' ⟨he, bel⟩ => ?_
  subst he
  exact ⟨_, rfl, _, _, _, [], _, [], hW', trodAll_mk1 (shut_bool Try.underlying4 _), (trodAll_cons_mk (shut_int Try.underlying3 w0) (trodAll_cons_mk (Below.trod laidOut (by kernel_rfl) (of_decide_eq_true (by kernel_rfl)) k1 bel (places_lt k1)) trodAll_mk0)), rfl, bel.frame _, fun h => by cases h⟩
set_option maxRecDepth 100000
theorem rec1 : Try.prog.recurses 11 = true := fact_recurses 11 90 (by kernel_rfl) (by kernel_rfl) (by kernel_rfl)
theorem q0 : (Rows.checkCallsRow.wf (OpenSpec.ofChange Rows.checkCallsSpec)) = true := by kernel_rfl
theorem q3 : (Try.f11.params.all (Try.prog.readableRec ·)) = true := by kernel_rfl
theorem q4 : (namedTie Try.prog Rows.checkCallsRow.named Rows.checkCallsSpec.vars) = true := by kernel_rfl
theorem q5 : (Rows.checkCallsRow.stops == []) = true := by kernel_rfl
theorem q7 : (Rows.checkCallsRow.knobs == []) = true := by kernel_rfl
theorem q9 : (Rows.checkCallsRow.inPlace == Try.prog.inPlace 11) = true := by kernel_rfl
theorem q10 : (Rows.checkCallsRow.unfollowed == Try.prog.unfollowed 11) = true := by kernel_rfl
theorem q11 : (Rows.checkCallsRow.recurses == Try.prog.recurses 11) = true := by rw [rec1]; kernel_rfl
theorem q12 : (Rows.checkCallsRow.named == Try.prog.varsNamed 11) = true := by kernel_rfl
theorem q13 : (Rows.checkCallsRow.maps == (Try.f11.params.toList ++ Rows.checkCallsSpec.plain.varTypes Try.prog).any (Try.prog.mapsRec ·)) = true := by kernel_rfl
theorem q14 : (Rows.checkCallsRow.ifaces == (Try.f11.params.toList ++ Rows.checkCallsSpec.plain.varTypes Try.prog).any (Try.prog.ifacesRec ·)) = true := by kernel_rfl
theorem q15 : (Rows.checkCallsRow.mapsOut == Try.prog.mapsAmong Try.f11.resultTypes.toList) = true := by kernel_rfl
theorem q16 : (Rows.checkCallsRow.loops == (Try.f11.params.toList ++ Rows.checkCallsSpec.plain.varTypes Try.prog).any (Try.prog.loopsFrom ·)) = true := by kernel_rfl
theorem q17 : (Rows.checkCallsRow.wideKeys == (Try.f11.params.toList ++ Rows.checkCallsSpec.plain.varTypes Try.prog ++ Try.f11.resultTypes.toList).any (Try.prog.wideKeysFrom ·)) = true := by kernel_rfl
theorem q18 : (Rows.checkCallsSpec.vars.all (Try.prog.varReadable ·)) = true := by kernel_rfl
theorem q19 : (Try.f11.resultTypes.all (fun t => Try.prog.readableRec t && decide (t < Try.prog.types.size))) = true := by kernel_rfl
theorem q20 : (Rows.checkCallsRow.ifacesOut == Try.f11.resultTypes.toList.any (Try.prog.ifacesRec ·)) = true := by kernel_rfl
theorem q21 : (Rows.checkCallsRow.loopsOut == Try.f11.resultTypes.toList.any (Try.prog.loopsFrom ·)) = true := by kernel_rfl
theorem q23 : (Rows.checkCallsRow.shortTexts.isNone) = true := by kernel_rfl
theorem q28 : (Rows.checkCallsRow.kinds == (if Rows.checkCallsRow.domain.isEmpty then [] else Try.f11.params.toList.map fun t => match Try.prog.underlying t with | some (.int k) => some k | _ => none)) = true := by kernel_rfl
theorem q29 : (Rows.checkCallsRow.pinned == Rows.checkCallsRow.pinnedBy) = true := by kernel_rfl
theorem q30 : (Rows.checkCallsRow.veiled == (Try.f11.params.toList ++ Rows.checkCallsSpec.plain.varTypes Try.prog ++ Try.f11.resultTypes.toList).any (Try.prog.veiledRec ·)) = true := by kernel_rfl
theorem q31 : (Rows.checkCallsRow.veiledFits Try.prog Try.f11.params.toList (Try.f11.params.toList ++ Rows.checkCallsSpec.plain.varTypes Try.prog ++ Try.f11.resultTypes.toList)) = true := by kernel_rfl
theorem joined : joinedFacts Try.prog 11 Try.f11 Rows.checkCallsSpec Rows.checkCallsRow = true := (and2 (and2 (and2 (and2 (and2 (and2 (and2 (and2 (and2 (and2 (and2 (and2 (and2 (and2 (and2 (and2 (and2 (and2 (and2 (and2 (and2 (and2 (and2 (and2 (and2 (and2 (and2 (and2 (and2 (and2 (and2 q0 fact_laid) fact_maps) q3) q4) q5) fact_stops) q7) fact_knobs) q9) q10) q11) q12) q13) q14) q15) q16) q17) q18) q19) q20) q21) fact_keys) q23) fact_heard) fact_enter) fact_lifted) fact_make) q28) q29) q30) q31)
theorem over : Rows.checkCallsRow.holds Try.pinned (OpenSpec.ofChange Rows.checkCallsSpec) :=
  OpenClaim.holds_of_wide 11 Try.f11 rfl rfl rfl rfl rfl rfl rfl ⟨rfl, rfl, rfl, rfl, rfl⟩ rfl rfl rfl rfl rfl (by kernel_rfl) Try.func11 joined
    (of_decide_eq_true (by kernel_rfl)) (by unfold Func.isWrapper; first | (rw [if_pos (by decide +kernel)]; kernel_rfl) | (rw [if_neg (by decide +kernel)]; exact ⟨rfl, rfl⟩))
    (fun os started H enc _ => lifted os started H enc)
theorem proved : Rows.CheckCallsSaid := over
#print axioms proved
end Go.Proofs.Ytphjldhdnmoolaa.checkCalls
namespace Go.Proofs.Ytphjldhdnmoolaa
/-- The row, under a short name, for the claim. -/
theorem checkCalls_holds : Rows.CheckCallsSaid := checkCalls.proved
end Go.Proofs.Ytphjldhdnmoolaa
