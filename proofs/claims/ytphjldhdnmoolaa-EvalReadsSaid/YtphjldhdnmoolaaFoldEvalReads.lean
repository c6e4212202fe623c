/- For every input EvalReads answers true: what only reads changes no cell. -/
import Derived.Test.YtphjldhdnmoolaaJBase6
import Derived.Test.YtphjldhdnmoolaaRows
set_option linter.unusedVariables false
set_option linter.unusedSimpArgs false
/- For every input EvalReads answers true: what only reads changes no cell. -/
namespace Go.Proofs.Ytphjldhdnmoolaa.evalReads
open Go Go.ChangeShapes Go.WideShapes Go.ChangeAt Go.RowKit Go.Joins Go.Proofs.Ytphjldhdnmoolaa.A
set_option maxRecDepth 100000 in
theorem lifted (os : Os) (started : os.Started) (H : Type) (enc : TypeId × Value → H) :
    ReturnsInHanded {} Try.checked os 15 .any (Rows.evalReadsSpec.pre6 enc Try.prog Try.f15 Rows.evalReadsRow.domain false) (Rows.evalReadsSpec.post enc Try.prog Try.f15 false true false false) := by
  refine returnsInHanded_of_change_sized (C := Try.checked) own started (by kernel_rfl) Try.func15
    (ChangeSpec.witness6 (enc := enc) (C := Try.checked) false ⟨#[], #[.agg #[.string ByteArray.empty, .slice none 0 0, .slice none 0 0]], []⟩ 8 (by kernel_rfl) (by kernel_rfl) (by kernel_rfl) (by kernel_rfl)) ?_
  intro W base args ds gs before hval0 hW hcnd hsz0 _
  have hsz : (DataW.weightsEach Try.prog (Try.f15.params.toList ++ Rows.evalReadsSpec.plain.varTypes Try.prog) (ds ++ gs)).all (· ≤ reachBytes) = true := hsz0
  have hval : ∀ (j : Nat) t v, Try.f15.params[j]? = some t → args[j]? = some v → Value.okWide Try.prog W .any base t v := hval0
  have hW' := hW
  obtain ⟨p, q, hA0, hV, rfl, hfz, hnd⟩ := hW
  have hA : DataW.TrodAll enc Try.prog W 0 (fun _ => true) true Try.f15.params.toList args.toList ds p := hA0
  rw [Try.params15] at hA hval hsz
  obtain ⟨v0, vs0, d0, ds0, p0, q0, hargs, rfl, rfl, h0, r0⟩ := trodAll_cons hA
  obtain ⟨rfl, rfl, rfl⟩ := trodAll_nil r0
  obtain rfl : args = #[v0] := by cases args; simp_all
  obtain ⟨rfl, rfl⟩ := trodVars_none hV
  have k0 := h0
  obtain ⟨u0_0, u0_1, u0_2, y0_0, y0_1, y0_2, m0, rfl, hd0, hp0, g0_0, g0_1, g0_2⟩ := open_agg3 Try.underlying82 (by kernel_rfl) (by kernel_rfl) (hval 0 82 v0 rfl rfl) h0
  have hsz0 : (DataW.weightsEach Try.prog [9, 37, 37] [y0_0.1, y0_1.1, y0_2.1]).all (· ≤ reachBytes) = true := by
    refine List.all_eq_true.2 (fun z hz => ?_)
    have hz' : z ∈ DataW.weights Try.prog 82 d0 := by rw [hd0]; simpa [DataW.weights, Try.underlying82] using hz
    exact List.all_eq_true.1 hsz _ (DataW.weights_mem_each (j := 0) (t := 82) (d := d0) rfl rfl z hz')
  obtain ⟨a0_0, e0_0, hx0_0, w0_0⟩ := DataW.trod_string Try.underlying9 g0_0
  simp only [List.cons.injEq, and_true] at e0_0
  subst e0_0
  obtain ⟨A0_1, l0_1, c0_1, hcs0_1, lc0_1, hC0_1, hw0_1, sz0_1⟩ := rel_ints Try.underlying37 Try.underlying3 (by kernel_rfl) g0_1 hsz0 (j := 1) (t := 37) rfl rfl (B := 8) (by kernel_rfl)
  simp only [List.cons.injEq, and_true] at hcs0_1
  subst hcs0_1
  obtain ⟨A0_2, l0_2, c0_2, hcs0_2, lc0_2, hC0_2, hw0_2, sz0_2⟩ := rel_ints Try.underlying37 Try.underlying3 (by kernel_rfl) g0_2 hsz0 (j := 2) (t := 37) rfl rfl (B := 8) (by kernel_rfl)
  simp only [List.cons.injEq, and_true] at hcs0_2
  subst hcs0_2
  clear hA0 hval0 hsz0
  refine (calls_of_sim (ereads_law _ _ _ _ (by omega)) (relL_cons ⟨_, rfl, (relL_cons (rel_v _ _ _) (relL_cons hC0_1 (relL_cons hC0_2 (relL_nil _ _))))⟩ (relL_nil _ _))).mono fun e W' ⟨he, bel⟩ => ?_
  subst he
  exact ⟨_, rfl, _, _, _, [], _, [], hW', trodAll_mk1 (shut_bool Try.underlying4 _), (trodAll_cons_mk (Below.trod laidOut (by kernel_rfl) (of_decide_eq_true (by kernel_rfl)) k0 bel (places_lt k0)) trodAll_mk0), rfl, bel.frame _, fun h => by cases h⟩
set_option maxRecDepth 100000
theorem rec1 : Try.prog.recurses 15 = true := fact_recurses 15 90 (by kernel_rfl) (by kernel_rfl) (by kernel_rfl)
theorem q0 : (Rows.evalReadsRow.wf (OpenSpec.ofChange Rows.evalReadsSpec)) = true := by kernel_rfl
theorem q3 : (Try.f15.params.all (Try.prog.readableRec ·)) = true := by kernel_rfl
theorem q4 : (namedTie Try.prog Rows.evalReadsRow.named Rows.evalReadsSpec.vars) = true := by kernel_rfl
theorem q5 : (Rows.evalReadsRow.stops == []) = true := by kernel_rfl
theorem q7 : (Rows.evalReadsRow.knobs == []) = true := by kernel_rfl
theorem q9 : (Rows.evalReadsRow.inPlace == Try.prog.inPlace 15) = true := by kernel_rfl
theorem q10 : (Rows.evalReadsRow.unfollowed == Try.prog.unfollowed 15) = true := by kernel_rfl
theorem q11 : (Rows.evalReadsRow.recurses == Try.prog.recurses 15) = true := by rw [rec1]; kernel_rfl
theorem q12 : (Rows.evalReadsRow.named == Try.prog.varsNamed 15) = true := by kernel_rfl
theorem q13 : (Rows.evalReadsRow.maps == (Try.f15.params.toList ++ Rows.evalReadsSpec.plain.varTypes Try.prog).any (Try.prog.mapsRec ·)) = true := by kernel_rfl
theorem q14 : (Rows.evalReadsRow.ifaces == (Try.f15.params.toList ++ Rows.evalReadsSpec.plain.varTypes Try.prog).any (Try.prog.ifacesRec ·)) = true := by kernel_rfl
theorem q15 : (Rows.evalReadsRow.mapsOut == Try.prog.mapsAmong Try.f15.resultTypes.toList) = true := by kernel_rfl
theorem q16 : (Rows.evalReadsRow.loops == (Try.f15.params.toList ++ Rows.evalReadsSpec.plain.varTypes Try.prog).any (Try.prog.loopsFrom ·)) = true := by kernel_rfl
theorem q17 : (Rows.evalReadsRow.wideKeys == (Try.f15.params.toList ++ Rows.evalReadsSpec.plain.varTypes Try.prog ++ Try.f15.resultTypes.toList).any (Try.prog.wideKeysFrom ·)) = true := by kernel_rfl
theorem q18 : (Rows.evalReadsSpec.vars.all (Try.prog.varReadable ·)) = true := by kernel_rfl
theorem q19 : (Try.f15.resultTypes.all (fun t => Try.prog.readableRec t && decide (t < Try.prog.types.size))) = true := by kernel_rfl
theorem q20 : (Rows.evalReadsRow.ifacesOut == Try.f15.resultTypes.toList.any (Try.prog.ifacesRec ·)) = true := by kernel_rfl
theorem q21 : (Rows.evalReadsRow.loopsOut == Try.f15.resultTypes.toList.any (Try.prog.loopsFrom ·)) = true := by kernel_rfl
theorem q23 : (Rows.evalReadsRow.shortTexts.isNone) = true := by kernel_rfl
theorem q28 : (Rows.evalReadsRow.kinds == (if Rows.evalReadsRow.domain.isEmpty then [] else Try.f15.params.toList.map fun t => match Try.prog.underlying t with | some (.int k) => some k | _ => none)) = true := by kernel_rfl
theorem q29 : (Rows.evalReadsRow.pinned == Rows.evalReadsRow.pinnedBy) = true := by kernel_rfl
theorem q30 : (Rows.evalReadsRow.veiled == (Try.f15.params.toList ++ Rows.evalReadsSpec.plain.varTypes Try.prog ++ Try.f15.resultTypes.toList).any (Try.prog.veiledRec ·)) = true := by kernel_rfl
theorem q31 : (Rows.evalReadsRow.veiledFits Try.prog Try.f15.params.toList (Try.f15.params.toList ++ Rows.evalReadsSpec.plain.varTypes Try.prog ++ Try.f15.resultTypes.toList)) = true := by kernel_rfl
theorem joined : joinedFacts Try.prog 15 Try.f15 Rows.evalReadsSpec Rows.evalReadsRow = true := (and2 (and2 (and2 (and2 (and2 (and2 (and2 (and2 (and2 (and2 (and2 (and2 (and2 (and2 (and2 (and2 (and2 (and2 (and2 (and2 (and2 (and2 (and2 (and2 (and2 (and2 (and2 (and2 (and2 (and2 (and2 q0 fact_laid) fact_maps) q3) q4) q5) fact_stops) q7) fact_knobs) q9) q10) q11) q12) q13) q14) q15) q16) q17) q18) q19) q20) q21) fact_keys) q23) fact_heard) fact_enter) fact_lifted) fact_make) q28) q29) q30) q31)
theorem over : Rows.evalReadsRow.holds Try.pinned (OpenSpec.ofChange Rows.evalReadsSpec) :=
  OpenClaim.holds_of_wide 15 Try.f15 rfl rfl rfl rfl rfl rfl rfl ⟨rfl, rfl, rfl, rfl, rfl⟩ rfl rfl rfl rfl rfl (by kernel_rfl) Try.func15 joined
    (of_decide_eq_true (by kernel_rfl)) (by unfold Func.isWrapper; first | (rw [if_pos (by decide +kernel)]; kernel_rfl) | (rw [if_neg (by decide +kernel)]; exact ⟨rfl, rfl⟩))
    (fun os started H enc _ => lifted os started H enc)
theorem proved : Rows.EvalReadsSaid := over
#print axioms proved
end Go.Proofs.Ytphjldhdnmoolaa.evalReads
namespace Go.Proofs.Ytphjldhdnmoolaa
/-- The row, under a short name, for the claim. -/
theorem evalReads_holds : Rows.EvalReadsSaid := evalReads.proved
end Go.Proofs.Ytphjldhdnmoolaa
