/- For every input EvalSwaps answers true: a swap done twice is none. -/
import Derived.Test.YtphjldhdnmoolaaJBase4
import Derived.Test.YtphjldhdnmoolaaRows
set_option linter.unusedVariables false
set_option linter.unusedSimpArgs false
/- For every input EvalSwaps answers true: a swap done twice is none. -/
namespace Go.Proofs.Ytphjldhdnmoolaa.evalSwaps
open Go Go.ChangeShapes Go.WideShapes Go.ChangeAt Go.RowKit Go.Joins Go.Proofs.Ytphjldhdnmoolaa.A
set_option maxRecDepth 100000 in
theorem lifted (os : Os) (started : os.Started) (H : Type) (enc : TypeId × Value → H) :
    ReturnsInHanded {} Try.checked os 19 .any (Rows.evalSwapsSpec.pre6 enc Try.prog Try.f19 Rows.evalSwapsRow.domain false) (Rows.evalSwapsSpec.post enc Try.prog Try.f19 false true false false) := by
  refine returnsInHanded_of_change_sized (C := Try.checked) own started (by kernel_rfl) Try.func19
    (ChangeSpec.witness6 (enc := enc) (C := Try.checked) false ⟨#[], #[.slice none 0 0, .int .i64 0, .int .i64 0], []⟩ 8 (by kernel_rfl) (by kernel_rfl) (by kernel_rfl) (by kernel_rfl)) ?_
  intro W base args ds gs before hval0 hW hcnd hsz0 _
  have hsz : (DataW.weightsEach Try.prog (Try.f19.params.toList ++ Rows.evalSwapsSpec.plain.varTypes Try.prog) (ds ++ gs)).all (· ≤ reachBytes) = true := hsz0
  have hval : ∀ (j : Nat) t v, Try.f19.params[j]? = some t → args[j]? = some v → Value.okWide Try.prog W .any base t v := hval0
  have hW' := hW
  obtain ⟨p, q, hA0, hV, rfl, hfz, hnd⟩ := hW
  have hA : DataW.TrodAll enc Try.prog W 0 (fun _ => true) true Try.f19.params.toList args.toList ds p := hA0
  rw [Try.params19] at hA hval hsz
  obtain ⟨v0, vs0, d0, ds0, p0, q0, hargs, rfl, rfl, h0, r0⟩ := trodAll_cons hA
  obtain ⟨v1, vs1, d1, ds1, p1, q1, rfl, rfl, rfl, h1, r1⟩ := trodAll_cons r0
  obtain ⟨v2, vs2, d2, ds2, p2, q2, rfl, rfl, rfl, h2, r2⟩ := trodAll_cons r1
  obtain ⟨rfl, rfl, rfl⟩ := trodAll_nil r2
  obtain rfl : args = #[v0, v1, v2] := by cases args; simp_all
  obtain ⟨rfl, rfl⟩ := trodVars_none hV
  have k0 := h0
  obtain ⟨fu0, hf0⟩ := h0
  obtain ⟨A0, l0, c0, hcs0, lc0, hC0, hw0, sz0⟩ := rel_ints Try.underlying37 Try.underlying3 (by kernel_rfl) hf0 hsz (j := 0) (t := 37) rfl rfl (B := 8) (by kernel_rfl)
  obtain ⟨aa0, ln0, cp0, rfl⟩ := okWide_slice Try.underlying37 (hval 0 37 v0 rfl rfl)
  simp only [Value.cells, List.cons.injEq, and_true, Value.slice.injEq] at hcs0
  obtain ⟨rfl, rfl, rfl⟩ := hcs0
  obtain ⟨a1, rfl, rfl, rfl, w1⟩ := open_int Try.underlying3 (hval 1 3 v1 rfl rfl) h1
  obtain ⟨a2, rfl, rfl, rfl, w2⟩ := open_int Try.underlying3 (hval 2 3 v2 rfl rfl) h2
  clear hA0 hval0 hsz0
  refine (calls_of_sim (swaps_law _ _ _ _ (by omega)) (relL_cons hC0 (relL_cons (rel_v _ _ _) (relL_cons (rel_v _ _ _) (relL_nil _ _))))).mono fun e W' ⟨he, bel⟩ => ?_
  subst he
  exact ⟨_, rfl, _, _, _, [], _, [], hW', trodAll_mk1 (shut_bool Try.underlying4 _), (trodAll_cons_mk (Below.trod laidOut (by kernel_rfl) (of_decide_eq_true (by kernel_rfl)) k0 bel (places_lt k0)) (trodAll_cons_mk (shut_int Try.underlying3 w1) (trodAll_cons_mk (shut_int Try.underlying3 w2) trodAll_mk0))), rfl, bel.frame _, fun h => by cases h⟩
set_option maxRecDepth 100000
theorem rec1 : Try.prog.recurses 19 = true := fact_recurses 19 90 (by kernel_rfl) (by kernel_rfl) (by kernel_rfl)
theorem q0 : (Rows.evalSwapsRow.wf (OpenSpec.ofChange Rows.evalSwapsSpec)) = true := by kernel_rfl
theorem q3 : (Try.f19.params.all (Try.prog.readableRec ·)) = true := by kernel_rfl
theorem q4 : (namedTie Try.prog Rows.evalSwapsRow.named Rows.evalSwapsSpec.vars) = true := by kernel_rfl
theorem q5 : (Rows.evalSwapsRow.stops == []) = true := by kernel_rfl
theorem q7 : (Rows.evalSwapsRow.knobs == []) = true := by kernel_rfl
theorem q9 : (Rows.evalSwapsRow.inPlace == Try.prog.inPlace 19) = true := by kernel_rfl
theorem q10 : (Rows.evalSwapsRow.unfollowed == Try.prog.unfollowed 19) = true := by kernel_rfl
theorem q11 : (Rows.evalSwapsRow.recurses == Try.prog.recurses 19) = true := by rw [rec1]; kernel_rfl
theorem q12 : (Rows.evalSwapsRow.named == Try.prog.varsNamed 19) = true := by kernel_rfl
theorem q13 : (Rows.evalSwapsRow.maps == (Try.f19.params.toList ++ Rows.evalSwapsSpec.plain.varTypes Try.prog).any (Try.prog.mapsRec ·)) = true := by kernel_rfl
theorem q14 : (Rows.evalSwapsRow.ifaces == (Try.f19.params.toList ++ Rows.evalSwapsSpec.plain.varTypes Try.prog).any (Try.prog.ifacesRec ·)) = true := by kernel_rfl
theorem q15 : (Rows.evalSwapsRow.mapsOut == Try.prog.mapsAmong Try.f19.resultTypes.toList) = true := by kernel_rfl
theorem q16 : (Rows.evalSwapsRow.loops == (Try.f19.params.toList ++ Rows.evalSwapsSpec.plain.varTypes Try.prog).any (Try.prog.loopsFrom ·)) = true := by kernel_rfl
theorem q17 : (Rows.evalSwapsRow.wideKeys == (Try.f19.params.toList ++ Rows.evalSwapsSpec.plain.varTypes Try.prog ++ Try.f19.resultTypes.toList).any (Try.prog.wideKeysFrom ·)) = true := by kernel_rfl
theorem q18 : (Rows.evalSwapsSpec.vars.all (Try.prog.varReadable ·)) = true := by kernel_rfl
theorem q19 : (Try.f19.resultTypes.all (fun t => Try.prog.readableRec t && decide (t < Try.prog.types.size))) = true := by kernel_rfl
theorem q20 : (Rows.evalSwapsRow.ifacesOut == Try.f19.resultTypes.toList.any (Try.prog.ifacesRec ·)) = true := by kernel_rfl
theorem q21 : (Rows.evalSwapsRow.loopsOut == Try.f19.resultTypes.toList.any (Try.prog.loopsFrom ·)) = true := by kernel_rfl
theorem q23 : (Rows.evalSwapsRow.shortTexts.isNone) = true := by kernel_rfl
theorem q28 : (Rows.evalSwapsRow.kinds == (if Rows.evalSwapsRow.domain.isEmpty then [] else Try.f19.params.toList.map fun t => match Try.prog.underlying t with | some (.int k) => some k | _ => none)) = true := by kernel_rfl
theorem q29 : (Rows.evalSwapsRow.pinned == Rows.evalSwapsRow.pinnedBy) = true := by kernel_rfl
theorem q30 : (Rows.evalSwapsRow.veiled == (Try.f19.params.toList ++ Rows.evalSwapsSpec.plain.varTypes Try.prog ++ Try.f19.resultTypes.toList).any (Try.prog.veiledRec ·)) = true := by kernel_rfl
theorem q31 : (Rows.evalSwapsRow.veiledFits Try.prog Try.f19.params.toList (Try.f19.params.toList ++ Rows.evalSwapsSpec.plain.varTypes Try.prog ++ Try.f19.resultTypes.toList)) = true := by kernel_rfl
theorem joined : joinedFacts Try.prog 19 Try.f19 Rows.evalSwapsSpec Rows.evalSwapsRow = true := (and2 (and2 (and2 (and2 (and2 (and2 (and2 (and2 (and2 (and2 (and2 (and2 (and2 (and2 (and2 (and2 (and2 (and2 (and2 (and2 (and2 (and2 (and2 (and2 (and2 (and2 (and2 (and2 (and2 (and2 (and2 q0 fact_laid) fact_maps) q3) q4) q5) fact_stops) q7) fact_knobs) q9) q10) q11) q12) q13) q14) q15) q16) q17) q18) q19) q20) q21) fact_keys) q23) fact_heard) fact_enter) fact_lifted) fact_make) q28) q29) q30) q31)
theorem over : Rows.evalSwapsRow.holds Try.pinned (OpenSpec.ofChange Rows.evalSwapsSpec) :=
  OpenClaim.holds_of_wide 19 Try.f19 rfl rfl rfl rfl rfl rfl rfl ⟨rfl, rfl, rfl, rfl, rfl⟩ rfl rfl rfl rfl rfl (by kernel_rfl) Try.func19 joined
    (of_decide_eq_true (by kernel_rfl)) (by unfold Func.isWrapper; first | (rw [if_pos (by decide +kernel)]; kernel_rfl) | (rw [if_neg (by decide +kernel)]; exact ⟨rfl, rfl⟩))
    (fun os started H enc _ => lifted os started H enc)
theorem proved : Rows.EvalSwapsSaid := over
#print axioms proved
end Go.Proofs.Ytphjldhdnmoolaa.evalSwaps
namespace Go.Proofs.Ytphjldhdnmoolaa
/-- The row, under a short name, for the claim. -/
theorem evalSwaps_holds : Rows.EvalSwapsSaid := evalSwaps.proved
end Go.Proofs.Ytphjldhdnmoolaa
