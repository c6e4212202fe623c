/- For every input EvalAdds answers true: operations that add, in either order. -/
import Derived.Test.YtphjldhdnmoolaaJBase6
import Derived.Test.YtphjldhdnmoolaaRows
set_option linter.unusedVariables false
set_option linter.unusedSimpArgs false
/- For every input EvalAdds answers true: operations that add, in either order. -/
namespace Go.Proofs.Ytphjldhdnmoolaa.evalAdds
open Go Go.ChangeShapes Go.WideShapes Go.ChangeAt Go.RowKit Go.Joins Go.Proofs.Ytphjldhdnmoolaa.A
set_option maxRecDepth 100000 in
theorem lifted (os : Os) (started : os.Started) (H : Type) (enc : TypeId × Value → H) :
    ReturnsInHanded {} Try.checked os 16 .any (Rows.evalAddsSpec.pre6 enc Try.prog Try.f16 Rows.evalAddsRow.domain false) (Rows.evalAddsSpec.post enc Try.prog Try.f16 false true false false) := by
  refine returnsInHanded_of_change_sized (C := Try.checked) own started (by kernel_rfl) Try.func16
    (ChangeSpec.witness6 (enc := enc) (C := Try.checked) false ⟨#[], #[.agg #[.string ByteArray.empty, .slice none 0 0, .slice none 0 0], .agg #[.string ByteArray.empty, .slice none 0 0, .slice none 0 0]], []⟩ 8 (by kernel_rfl) (by kernel_rfl) (by kernel_rfl) (by kernel_rfl)) ?_
  intro W base args ds gs before hval0 hW hcnd hsz0 _
  have hsz : (DataW.weightsEach Try.prog (Try.f16.params.toList ++ Rows.evalAddsSpec.plain.varTypes Try.prog) (ds ++ gs)).all (· ≤ reachBytes) = true := hsz0
  have hval : ∀ (j : Nat) t v, Try.f16.params[j]? = some t → args[j]? = some v → Value.okWide Try.prog W .any base t v := hval0
  have hW' := hW
  obtain ⟨p, q, hA0, hV, rfl, hfz, hnd⟩ := hW
  have hA : DataW.TrodAll enc Try.prog W 0 (fun _ => true) true Try.f16.params.toList args.toList ds p := hA0
  rw [Try.params16] at hA hval hsz
  obtain ⟨v0, vs0, d0, ds0, p0, q0, hargs, rfl, rfl, h0, r0⟩ := trodAll_cons hA
  obtain ⟨v1, vs1, d1, ds1, p1, q1, rfl, rfl, rfl, h1, r1⟩ := trodAll_cons r0
  obtain ⟨rfl, rfl, rfl⟩ := trodAll_nil r1
  obtain rfl : args = #[v0, v1] := by cases args; simp_all
  obtain ⟨rfl, rfl⟩ := trodVars_none hV
  have k0 := h0
  obtain ⟨u0_0, u0_1, u0_2, y0_0, y0_1, y0_2, m0, rfl, hd0, hp0, g0_0, g0_1, g0_2⟩ := open_agg3 Try.underlying82 (by kernel_rfl) (by kernel_rfl) (hval 0 82 v0 rfl rfl) h0
  have hsz0 : (DataW.weightsEach Try.prog [9, 37, 37] [y0_0.1, y0_1.1, y0_2.1]).all (· ≤ reachBytes) = true := by
    refine List.all_eq_true.2 (fun z hz => ?_)
    have hz' : z ∈ DataW.weights Try.prog 82 d0 := by rw [hd0]; simpa [DataW.weights, Try.underlying82] using hz
    exact List.all_eq_true.1 hsz _ (DataW.weights_mem_each (j := 0) (t := 82) (d := d0) rfl rfl z hz')
  obtain ⟨a0_0, e0_0, hx0_0, w0_0⟩ := DataW.trod_string Try.underlying9 g0_0
  simp only [List.cons.injEq, and_true] at e0_0
  subst e0_0
  obtain ⟨A0_1, l0_1, c0_1, hcs0_1, lc0_1, hC0_1, hw0_1, sz0_1⟩ := rel_ints Try.underlying37 Try.underlying3 (by kernel_rfl) g0_1 hsz0 (j := 1) (t := 37) rfl rfl (B := 8) (by kernel_rfl)
  simp only [List.cons.injEq, and_true] at hcs0_1
  subst hcs0_1
  obtain ⟨A0_2, l0_2, c0_2, hcs0_2, lc0_2, hC0_2, hw0_2, sz0_2⟩ := rel_ints Try.underlying37 Try.underlying3 (by kernel_rfl) g0_2 hsz0 (j := 2) (t := 37) rfl rfl (B := 8) (by kernel_rfl)
  simp only [List.cons.injEq, and_true] at hcs0_2
  subst hcs0_2
  have k1 := h1
  obtain ⟨u1_0, u1_1, u1_2, y1_0, y1_1, y1_2, m1, rfl, hd1, hp1, g1_0, g1_1, g1_2⟩ := open_agg3 Try.underlying82 (by kernel_rfl) (by kernel_rfl) (hval 1 82 v1 rfl rfl) h1
  have hsz1 : (DataW.weightsEach Try.prog [9, 37, 37] [y1_0.1, y1_1.1, y1_2.1]).all (· ≤ reachBytes) = true := by
    refine List.all_eq_true.2 (fun z hz => ?_)
    have hz' : z ∈ DataW.weights Try.prog 82 d1 := by rw [hd1]; simpa [DataW.weights, Try.underlying82] using hz
    exact List.all_eq_true.1 hsz _ (DataW.weights_mem_each (j := 1) (t := 82) (d := d1) rfl rfl z hz')
  obtain ⟨a1_0, e1_0, hx1_0, w1_0⟩ := DataW.trod_string Try.underlying9 g1_0
  simp only [List.cons.injEq, and_true] at e1_0
  subst e1_0
  obtain ⟨A1_1, l1_1, c1_1, hcs1_1, lc1_1, hC1_1, hw1_1, sz1_1⟩ := rel_ints Try.underlying37 Try.underlying3 (by kernel_rfl) g1_1 hsz1 (j := 1) (t := 37) rfl rfl (B := 8) (by kernel_rfl)
  simp only [List.cons.injEq, and_true] at hcs1_1
  subst hcs1_1
  obtain ⟨A1_2, l1_2, c1_2, hcs1_2, lc1_2, hC1_2, hw1_2, sz1_2⟩ := rel_ints Try.underlying37 Try.underlying3 (by kernel_rfl) g1_2 hsz1 (j := 2) (t := 37) rfl rfl (B := 8) (by kernel_rfl)
  simp only [List.cons.injEq, and_true] at hcs1_2
  subst hcs1_2
  clear hA0 hval0 hsz0
  refine (calls_of_sim (eadds_law _ _ _ _ _ _ _ (by omega) (fun n hn => (int_wf (hw0_1 n hn)).1) (fun n hn => by have := (int_wf (hw0_1 n hn)).2; omega)) (relL_cons ⟨_, rfl, (relL_cons (rel_v _ _ _) (relL_cons hC0_1 (relL_cons hC0_2 (relL_nil _ _))))⟩ (relL_cons ⟨_, rfl, (relL_cons (rel_v _ _ _) (relL_cons hC1_1 (relL_cons hC1_2 (relL_nil _ _))))⟩ (relL_nil _ _)))).mono fun e W' ⟨he, bel⟩ => ?_
  subst he
  exact ⟨_, rfl, _, _, _, [], _, [], hW', trodAll_mk1 (shut_bool Try.underlying4 _), (trodAll_cons_mk (Below.trod laidOut (by kernel_rfl) (of_decide_eq_true (by kernel_rfl)) k0 bel (places_lt k0)) (trodAll_cons_mk (Below.trod laidOut (by kernel_rfl) (of_decide_eq_true (by kernel_rfl)) k1 bel (places_lt k1)) trodAll_mk0)), rfl, bel.frame _, fun h => by cases h⟩
set_option maxRecDepth 100000
theorem rec1 : Try.prog.recurses 16 = true := fact_recurses 16 90 (by kernel_rfl) (by kernel_rfl) (by kernel_rfl)
theorem q0 : (Rows.evalAddsRow.wf (OpenSpec.ofChange Rows.evalAddsSpec)) = true := by kernel_rfl
theorem q3 : (Try.f16.params.all (Try.prog.readableRec ·)) = true := by kernel_rfl
theorem q4 : (namedTie Try.prog Rows.evalAddsRow.named Rows.evalAddsSpec.vars) = true := by kernel_rfl
theorem q5 : (Rows.evalAddsRow.stops == []) = true := by kernel_rfl
theorem q7 : (Rows.evalAddsRow.knobs == []) = true := by kernel_rfl
theorem q9 : (Rows.evalAddsRow.inPlace == Try.prog.inPlace 16) = true := by kernel_rfl
theorem q10 : (Rows.evalAddsRow.unfollowed == Try.prog.unfollowed 16) = true := by kernel_rfl
theorem q11 : (Rows.evalAddsRow.recurses == Try.prog.recurses 16) = true := by rw [rec1]; kernel_rfl
theorem q12 : (Rows.evalAddsRow.named == Try.prog.varsNamed 16) = true := by kernel_rfl
theorem q13 : (Rows.evalAddsRow.maps == (Try.f16.params.toList ++ Rows.evalAddsSpec.plain.varTypes Try.prog).any (Try.prog.mapsRec ·)) = true := by kernel_rfl
theorem q14 : (Rows.evalAddsRow.ifaces == (Try.f16.params.toList ++ Rows.evalAddsSpec.plain.varTypes Try.prog).any (Try.prog.ifacesRec ·)) = true := by kernel_rfl
theorem q15 : (Rows.evalAddsRow.mapsOut == Try.prog.mapsAmong Try.f16.resultTypes.toList) = true := by kernel_rfl
theorem q16 : (Rows.evalAddsRow.loops == (Try.f16.params.toList ++ Rows.evalAddsSpec.plain.varTypes Try.prog).any (Try.prog.loopsFrom ·)) = true := by kernel_rfl
theorem q17 : (Rows.evalAddsRow.wideKeys == (Try.f16.params.toList ++ Rows.evalAddsSpec.plain.varTypes Try.prog ++ Try.f16.resultTypes.toList).any (Try.prog.wideKeysFrom ·)) = true := by kernel_rfl
theorem q18 : (Rows.evalAddsSpec.vars.all (Try.prog.varReadable ·)) = true := by kernel_rfl
theorem q19 : (Try.f16.resultTypes.all (fun t => Try.prog.readableRec t && decide (t < Try.prog.types.size))) = true := by kernel_rfl
theorem q20 : (Rows.evalAddsRow.ifacesOut == Try.f16.resultTypes.toList.any (Try.prog.ifacesRec ·)) = true := by kernel_rfl
theorem q21 : (Rows.evalAddsRow.loopsOut == Try.f16.resultTypes.toList.any (Try.prog.loopsFrom ·)) = true := by kernel_rfl
theorem q23 : (Rows.evalAddsRow.shortTexts.isNone) = true := by kernel_rfl
theorem q28 : (Rows.evalAddsRow.kinds == (if Rows.evalAddsRow.domain.isEmpty then [] else Try.f16.params.toList.map fun t => match Try.prog.underlying t with | some (.int k) => some k | _ => none)) = true := by kernel_rfl
theorem q29 : (Rows.evalAddsRow.pinned == Rows.evalAddsRow.pinnedBy) = true := by kernel_rfl
theorem q30 : (Rows.evalAddsRow.veiled == (Try.f16.params.toList ++ Rows.evalAddsSpec.plain.varTypes Try.prog ++ Try.f16.resultTypes.toList).any (Try.prog.veiledRec ·)) = true := by kernel_rfl
theorem q31 : (Rows.evalAddsRow.veiledFits Try.prog Try.f16.params.toList (Try.f16.params.toList ++ Rows.evalAddsSpec.plain.varTypes Try.prog ++ Try.f16.resultTypes.toList)) = true := by kernel_rfl
theorem joined : joinedFacts Try.prog 16 Try.f16 Rows.evalAddsSpec Rows.evalAddsRow = true := (and2 (and2 (and2 (and2 (and2 (and2 (and2 (and2 (and2 (and2 (and2 (and2 (and2 (and2 (and2 (and2 (and2 (and2 (and2 (and2 (and2 (and2 (and2 (and2 (and2 (and2 (and2 (and2 (and2 (and2 (and2 q0 fact_laid) fact_maps) q3) q4) q5) fact_stops) q7) fact_knobs) q9) q10) q11) q12) q13) q14) q15) q16) q17) q18) q19) q20) q21) fact_keys) q23) fact_heard) fact_enter) fact_lifted) fact_make) q28) q29) q30) q31)
theorem over : Rows.evalAddsRow.holds Try.pinned (OpenSpec.ofChange Rows.evalAddsSpec) :=
  OpenClaim.holds_of_wide 16 Try.f16 rfl rfl rfl rfl rfl rfl rfl ⟨rfl, rfl, rfl, rfl, rfl⟩ rfl rfl rfl rfl rfl (by kernel_rfl) Try.func16 joined
    (of_decide_eq_true (by kernel_rfl)) (by unfold Func.isWrapper; first | (rw [if_pos (by decide +kernel)]; kernel_rfl) | (rw [if_neg (by decide +kernel)]; exact ⟨rfl, rfl⟩))
    (fun os started H enc _ => lifted os started H enc)
theorem proved : Rows.EvalAddsSaid := over
#print axioms proved
end Go.Proofs.Ytphjldhdnmoolaa.evalAdds
namespace Go.Proofs.Ytphjldhdnmoolaa
/-- The row, under a short name, for the claim. -/
theorem evalAdds_holds : Rows.EvalAddsSaid := evalAdds.proved
end Go.Proofs.Ytphjldhdnmoolaa
