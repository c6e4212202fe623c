/- For every input PageTurns answers true: a page's sector with one byte changed is none. -/
import Derived.Test.YtbphmpncajfaiaaJBase2
import Derived.Test.YtbphmpncajfaiaaRows
import Derived.WalkKit
/- For every input PageTurns answers true: a page's sector with one byte changed is none. -/
namespace Go.Proofs.Ytbphmpncajfaiaa.pageTurns
open Go.ChangeShapes Go.WideShapes Go.ChangeAt Go.RowKit Go.Joins Go.Proofs.Ytbphmpncajfaiaa.K Go.Proofs.Ytbphmpncajfaiaa.M
set_option linter.unusedVariables false
set_option linter.unusedSimpArgs false
set_option maxRecDepth 100000 in
theorem lifted (os : Os) (started : os.Started) (H : Type) (enc : TypeId × Value → H) :
    ReturnsInHanded {} Try.checked os 11 .any (Rows.pageTurnsSpec.pre6 enc Try.prog Try.f11 Rows.pageTurnsRow.domain false) (Rows.pageTurnsSpec.post enc Try.prog Try.f11 false true false false) := by
  refine returnsInHanded_of_change_sized (C := Try.checked) own started (by kernel_rfl) Try.func11
    (ChangeSpec.witness6 (enc := enc) (C := Try.checked) false ⟨#[], #[.agg #[.int .i64 0, .slice none 0 0, .int .i64 0, .int .u8 0]], []⟩ 8 (by kernel_rfl) (by kernel_rfl) (by kernel_rfl) (by kernel_rfl)) ?_
  intro W base args ds gs before hval0 hW hcnd hsz0 _
  have hsz : (DataW.weightsEach Try.prog (Try.f11.params.toList ++ Rows.pageTurnsSpec.plain.varTypes Try.prog) (ds ++ gs)).all (· ≤ reachBytes) = true := hsz0
  have hval : ∀ (j : Nat) t v, Try.f11.params[j]? = some t → args[j]? = some v → Value.okWide Try.prog W .any base t v := hval0
  have hW' := hW
  obtain ⟨p, q, hA0, hV, rfl, hfz, hnd⟩ := hW
  have hA : DataW.TrodAll enc Try.prog W 0 (fun _ => true) true Try.f11.params.toList args.toList ds p := hA0
  rw [Try.params11] at hA hval hsz
  obtain ⟨v0, vs0, d0, ds0, p0, q0, hargs, rfl, rfl, h0, r0⟩ := trodAll_cons hA
  obtain ⟨rfl, rfl, rfl⟩ := trodAll_nil r0
  obtain rfl : args = #[v0] := by cases args; simp_all
  obtain ⟨rfl, rfl⟩ := trodVars_none hV
  have k0 := h0
  obtain ⟨u0_0, u0_1, u0_2, u0_3, y0_0, y0_1, y0_2, y0_3, m0, rfl, hd0, hp0, g0_0, g0_1, g0_2, g0_3⟩ := open_agg4 Try.underlying74 (by kernel_rfl) (by kernel_rfl) (hval 0 74 v0 rfl rfl) h0
  have hsz0 : (DataW.weightsEach Try.prog [3, 27, 3, 5] [y0_0.1, y0_1.1, y0_2.1, y0_3.1]).all (· ≤ reachBytes) = true := by
    refine List.all_eq_true.2 (fun z hz => ?_)
    have hz' : z ∈ DataW.weights Try.prog 74 d0 := by rw [hd0]; simpa [DataW.weights, Try.underlying74] using hz
    exact List.all_eq_true.1 hsz _ (DataW.weights_mem_each (j := 0) (t := 74) (d := d0) rfl rfl z hz')
  obtain ⟨a0_0, e0_0, hx0_0, w0_0⟩ := DataW.trod_int Try.underlying3 g0_0
  simp only [List.cons.injEq, and_true] at e0_0
  subst e0_0
  obtain ⟨A0_1, l0_1, c0_1, hcs0_1, lc0_1, hC0_1, hw0_1, sz0_1⟩ := open_row Try.underlying27 Try.underlying3 (by kernel_rfl) g0_1 hsz0 (j := 1) (t := 27) rfl rfl (B := 8) (by kernel_rfl)
  simp only [List.cons.injEq, and_true] at hcs0_1
  subst hcs0_1
  obtain ⟨a0_2, e0_2, hx0_2, w0_2⟩ := DataW.trod_int Try.underlying3 g0_2
  simp only [List.cons.injEq, and_true] at e0_2
  subst e0_2
  obtain ⟨a0_3, e0_3, hx0_3, w0_3⟩ := DataW.trod_int Try.underlying5 g0_3
  simp only [List.cons.injEq, and_true] at e0_3
  subst e0_3
  clear hA0 hval0 hsz0
  refine (turns5_calls a0_0 a0_2 a0_3 A0_1 c0_1 l0_1 W hC0_1 lc0_1 (by omega) (int_wf w0_0) (fun x hx => int_wf (hw0_1 x hx)) (byte_wf w0_3)).mono fun e W' ⟨he, bel⟩ => ?_
  subst he
  exact ⟨_, rfl, _, _, _, [], _, [], hW', trodAll_mk1 (shut_bool Try.underlying4 _), (trodAll_cons_mk (Below.trod laidOut (by kernel_rfl) (of_decide_eq_true (by kernel_rfl)) k0 bel (places_lt k0)) trodAll_mk0), rfl, bel.frame _, fun h => by cases h⟩
theorem over : Rows.pageTurnsRow.holds Try.pinned (OpenSpec.ofChange Rows.pageTurnsSpec) :=
  OpenClaim.holds_of_wide 11 Try.f11 rfl rfl rfl rfl rfl rfl rfl ⟨rfl, rfl, rfl, rfl, rfl⟩ rfl rfl rfl rfl rfl (by kernel_rfl) Try.func11 (by kernel_rfl)
    (of_decide_eq_true (by kernel_rfl)) (by unfold Func.isWrapper; first | (rw [if_pos (by decide +kernel)]; kernel_rfl) | (rw [if_neg (by decide +kernel)]; exact ⟨rfl, rfl⟩))
    (fun os started H enc _ => lifted os started H enc)
theorem proved : Rows.PageTurnsSaid := over
#print axioms proved
end Go.Proofs.Ytbphmpncajfaiaa.pageTurns
namespace Go.Proofs.Ytbphmpncajfaiaa
/-- The row, under a short name, for the claim. -/
theorem pageTurns_holds : Rows.PageTurnsSaid := pageTurns.proved
end Go.Proofs.Ytbphmpncajfaiaa
