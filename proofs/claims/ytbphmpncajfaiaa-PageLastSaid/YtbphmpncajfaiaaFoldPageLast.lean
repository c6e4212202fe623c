/- For every input PageLast answers true: of images of one cell the last one counts. -/
import Derived.Test.YtbphmpncajfaiaaJBase2
import Derived.Test.YtbphmpncajfaiaaRows
import Derived.WalkKit
/- For every input PageLast answers true: of images of one cell the last one counts. -/
namespace Go.Proofs.Ytbphmpncajfaiaa.pageLast
open Go.ChangeShapes Go.WideShapes Go.ChangeAt Go.RowKit Go.Joins Go.Proofs.Ytbphmpncajfaiaa.K Go.Proofs.Ytbphmpncajfaiaa.M
set_option linter.unusedVariables false
set_option linter.unusedSimpArgs false
set_option maxRecDepth 100000 in
theorem lifted (os : Os) (started : os.Started) (H : Type) (enc : TypeId × Value → H) :
    ReturnsInHanded {} Try.checked os 14 .any (Rows.pageLastSpec.pre6 enc Try.prog Try.f14 Rows.pageLastRow.domain false) (Rows.pageLastSpec.post enc Try.prog Try.f14 false true false false) := by
  refine returnsInHanded_of_change_sized (C := Try.checked) own started (by kernel_rfl) Try.func14
    (ChangeSpec.witness6 (enc := enc) (C := Try.checked) false ⟨#[], #[.agg #[.slice none 0 0, .int .i64 0, .int .i64 0, .int .i64 0]], []⟩ 8 (by kernel_rfl) (by kernel_rfl) (by kernel_rfl) (by kernel_rfl)) ?_
  intro W base args ds gs before hval0 hW hcnd hsz0 _
  have hsz : (DataW.weightsEach Try.prog (Try.f14.params.toList ++ Rows.pageLastSpec.plain.varTypes Try.prog) (ds ++ gs)).all (· ≤ reachBytes) = true := hsz0
  have hval : ∀ (j : Nat) t v, Try.f14.params[j]? = some t → args[j]? = some v → Value.okWide Try.prog W .any base t v := hval0
  have hW' := hW
  obtain ⟨p, q, hA0, hV, rfl, hfz, hnd⟩ := hW
  have hA : DataW.TrodAll enc Try.prog W 0 (fun _ => true) true Try.f14.params.toList args.toList ds p := hA0
  rw [Try.params14] at hA hval hsz
  obtain ⟨v0, vs0, d0, ds0, p0, q0, hargs, rfl, rfl, h0, r0⟩ := trodAll_cons hA
  obtain ⟨rfl, rfl, rfl⟩ := trodAll_nil r0
  obtain rfl : args = #[v0] := by cases args; simp_all
  obtain ⟨rfl, rfl⟩ := trodVars_none hV
  have k0 := h0
  obtain ⟨u0_0, u0_1, u0_2, u0_3, y0_0, y0_1, y0_2, y0_3, m0, rfl, hd0, hp0, g0_0, g0_1, g0_2, g0_3⟩ := open_agg4 Try.underlying87 (by kernel_rfl) (by kernel_rfl) (hval 0 87 v0 rfl rfl) h0
  have hsz0 : (DataW.weightsEach Try.prog [27, 3, 3, 3] [y0_0.1, y0_1.1, y0_2.1, y0_3.1]).all (· ≤ reachBytes) = true := by
    refine List.all_eq_true.2 (fun z hz => ?_)
    have hz' : z ∈ DataW.weights Try.prog 87 d0 := by rw [hd0]; simpa [DataW.weights, Try.underlying87] using hz
    exact List.all_eq_true.1 hsz _ (DataW.weights_mem_each (j := 0) (t := 87) (d := d0) rfl rfl z hz')
  obtain ⟨A0_0, l0_0, c0_0, hcs0_0, lc0_0, hC0_0, hw0_0, sz0_0⟩ := open_row Try.underlying27 Try.underlying3 (by kernel_rfl) g0_0 hsz0 (j := 0) (t := 27) rfl rfl (B := 8) (by kernel_rfl)
  simp only [List.cons.injEq, and_true] at hcs0_0
  subst hcs0_0
  obtain ⟨a0_1, e0_1, hx0_1, w0_1⟩ := DataW.trod_int Try.underlying3 g0_1
  simp only [List.cons.injEq, and_true] at e0_1
  subst e0_1
  obtain ⟨a0_2, e0_2, hx0_2, w0_2⟩ := DataW.trod_int Try.underlying3 g0_2
  simp only [List.cons.injEq, and_true] at e0_2
  subst e0_2
  obtain ⟨a0_3, e0_3, hx0_3, w0_3⟩ := DataW.trod_int Try.underlying3 g0_3
  simp only [List.cons.injEq, and_true] at e0_3
  subst e0_3
  clear hA0 hval0 hsz0
  refine (last_calls a0_1 a0_2 a0_3 A0_0 c0_0 l0_0 W hC0_0 lc0_0 (by omega)).mono fun e W' ⟨he, bel⟩ => ?_
  subst he
  exact ⟨_, rfl, _, _, _, [], _, [], hW', trodAll_mk1 (shut_bool Try.underlying4 _), (trodAll_cons_mk (Below.trod laidOut (by kernel_rfl) (of_decide_eq_true (by kernel_rfl)) k0 bel (places_lt k0)) trodAll_mk0), rfl, bel.frame _, fun h => by cases h⟩
theorem over : Rows.pageLastRow.holds Try.pinned (OpenSpec.ofChange Rows.pageLastSpec) :=
  OpenClaim.holds_of_wide 14 Try.f14 rfl rfl rfl rfl rfl rfl rfl ⟨rfl, rfl, rfl, rfl, rfl⟩ rfl rfl rfl rfl rfl (by kernel_rfl) Try.func14 (by kernel_rfl)
    (of_decide_eq_true (by kernel_rfl)) (by unfold Func.isWrapper; first | (rw [if_pos (by decide +kernel)]; kernel_rfl) | (rw [if_neg (by decide +kernel)]; exact ⟨rfl, rfl⟩))
    (fun os started H enc _ => lifted os started H enc)
theorem proved : Rows.PageLastSaid := over
#print axioms proved
end Go.Proofs.Ytbphmpncajfaiaa.pageLast
namespace Go.Proofs.Ytbphmpncajfaiaa
/-- The row, under a short name, for the claim. -/
theorem pageLast_holds : Rows.PageLastSaid := pageLast.proved
end Go.Proofs.Ytbphmpncajfaiaa
