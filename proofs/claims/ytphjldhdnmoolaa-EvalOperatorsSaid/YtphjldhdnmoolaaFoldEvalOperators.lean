/- For every input EvalOperators answers true: what dividing is. -/
import Derived.Test.YtphjldhdnmoolaaJBase4
import Derived.Test.YtphjldhdnmoolaaRows
set_option linter.unusedVariables false
set_option linter.unusedSimpArgs false
/- The walks of some functions over the abstract machine. -/
namespace Go.Proofs.Ytphjldhdnmoolaa.A
open Go
/-! EvalOperators -/
def v2 : Bytes := ⟨#[111, 112, 32, 111, 40, 97, 44, 32, 98, 41, 32, 123, 32, 91, 48, 93, 32, 61, 32, 97, 32, 47, 32, 98, 59, 32, 91, 49, 93, 32, 61, 32, 97, 32, 37, 32, 98, 59, 32, 91, 50, 93, 32, 61, 32, 91, 48, 93, 32, 42, 32, 98, 32, 43, 32, 91, 49, 93, 59, 32, 91, 51, 93, 32, 61, 32, 45, 97, 59, 32, 91, 52, 93, 32, 61, 32, 97, 32, 45, 32, 98, 32, 43, 32, 98, 59, 32, 103, 105, 118, 101, 32, 97, 32, 42, 32, 98, 59, 32, 125]⟩
set_option maxRecDepth 100000
theorem v2_code : (parse v2).2.1 = 0 := by rw [parse_Q]; kernel_rfl
def o0 (a b : Int) : Int := if b = 0 then 0 else w64 (a.tdiv b)
def o1 (a b : Int) : Int := if b = 0 then 0 else a.tmod b
def o2 (a b : Int) : Int := w64 (w64 (o0 a b * b) + o1 a b)
def o3 (a : Int) : Int := w64 (0 - a)
def o4 (a b : Int) : Int := w64 (w64 (a - b) + b)
def oC (a b : Int) : List Int := ((((zeros.set 0 (o0 a b)).set 1 (o1 a b)).set 2 (o2 a b)).set 3 (o3 a)).set 4 (o4 a b)
theorem v2_run (a b : Int) : runP (parse v2).1 0 zeros [a, b] = some ⟨0, oC a b, w64 (a * b), 0⟩ := by rw [parse_Q]; kernel_rfl
theorem w64_spec (x : Int) : ∃ k : Int, w64 x = x + 18446744073709551616 * k := by
  simp only [w64, IntKind.wrap, IntKind.bits, IntKind.signed]
  by_cases h : (9223372036854775808 : Int) ≤ x % 18446744073709551616
  · exact ⟨-(x / 18446744073709551616) - 1, by simp at *; omega⟩
  · exact ⟨-(x / 18446744073709551616), by simp at *; omega⟩
theorem w64_eq {x y k : Int} (h0 : -9223372036854775808 ≤ y) (h1 : y < 9223372036854775808) (h : x = y + 18446744073709551616 * k) : w64 x = y := by
  subst h
  simp only [w64, IntKind.wrap, IntKind.bits, IntKind.signed]
  simp
  omega
section
variable {a b : Int} (ha0 : -9223372036854775808 ≤ a) (ha1 : a < 9223372036854775808)
include ha0 ha1
theorem o4_eq : o4 a b = a := by
  obtain ⟨k, hk⟩ := w64_spec (a - b)
  unfold o4
  exact w64_eq ha0 ha1 (k := k) (by rw [hk]; omega)
theorem o2_eq (hb : b ≠ 0) : o2 a b = a := by
  unfold o2 o0 o1
  rw [if_neg hb, if_neg hb]
  obtain ⟨k1, h1⟩ := w64_spec (a.tdiv b)
  rw [h1]
  obtain ⟨k2, h2⟩ := w64_spec ((a.tdiv b + 18446744073709551616 * k1) * b)
  rw [h2, Int.add_mul, Int.mul_assoc]
  have h3 := Int.tdiv_mul_add_tmod a b
  exact w64_eq ha0 ha1 (k := k1 * b + k2) (by rw [Int.mul_add]; omega)
theorem o1_sign (hb : b ≠ 0) : o1 a b = 0 ∨ (o1 a b < 0 ↔ a < 0) := by
  unfold o1
  rw [if_neg hb]
  by_cases h : 0 ≤ a
  · have h2 := Int.tmod_nonneg b h
    by_cases h3 : a.tmod b = 0
    · exact .inl h3
    · right; omega
  · have h2 := Int.tmod_nonneg b (show 0 ≤ -a by omega)
    rw [Int.neg_tmod] at h2
    by_cases h3 : a.tmod b = 0
    · exact .inl h3
    · right; omega
end
theorem oC_len (a b : Int) : (oC a b).length = 60 := by simp [oC, zeros]
theorem oC_map (a b : Int) : (oC a b).map (IV.v <| .int .i64 ·) = ii (o0 a b) :: ii (o1 a b) :: ii (o2 a b) :: ii (o3 a) :: ii (o4 a b) :: (List.replicate 55 0).map (IV.v <| .int .i64 ·) := by
  unfold oC
  generalize o0 a b = x0
  generalize o1 a b = x1
  generalize o2 a b = x2
  generalize o3 a = x3
  generalize o4 a b = x4
  rfl
set_option maxRecDepth 100000 in
set_option maxHeartbeats 4000000 in
theorem operators_law (m : Mem) (a b : Int) (ha0 : -9223372036854775808 ≤ a) (ha1 : a < 9223372036854775808) : Sim 17 [ii a, ii b] m (fun r m' => r = bb true ∧ m' = m) := by
  have h1 := fun m => parse_sim m v2 (by decide)
  have ka := fun m => parse_run v2_code m 0 zeros z60 [a, b] _ (v2_run a b)
  rw [v2_code] at h1
  generalize (parse v2).2.2 = pl at h1
  generalize (parse v2).1 = D at h1 ka
  have l60 := oC_len a b
  have e4 := o4_eq (b := b) ha0 ha1
  refine Sim.ofS 87 [.tmp 4] Try.func17 rfl rfl rfl (by simp) fun wr => ?_
  simp only [go_sem, Nat.reduceEqDiff, Nat.reduceBEq, Int.reduceToNat, Int.reduceLT, Int.reduceLE, Int.reduceEq, Nat.reduceLeDiff, Nat.reduceLT, Nat.reduceMul, Nat.reduceAdd, String.reduceEq]
  refine TS.seq (TS.of [] fun Q hQ => ?_)
  simp only [go_sem, Nat.reduceEqDiff, Nat.reduceBEq, Int.reduceToNat, Int.reduceLT, Int.reduceLE, Int.reduceEq, Nat.reduceLeDiff, Nat.reduceLT, Nat.reduceMul, Nat.reduceAdd, String.reduceEq]
  refine hQ .normal _ ?_; clear hQ Q
  refine TS.seq (TS.of [] fun Q hQ => ?_)
  simp only [go_sem, Nat.reduceEqDiff, Nat.reduceBEq, Int.reduceToNat, Int.reduceLT, Int.reduceLE, Int.reduceEq, Nat.reduceLeDiff, Nat.reduceLT, Nat.reduceMul, Nat.reduceAdd, String.reduceEq]
  refine cal_eq (alive9_sim _) ?_
  simp only [go_sem, Nat.reduceEqDiff, Nat.reduceBEq, Int.reduceToNat, Int.reduceLT, Int.reduceLE, Int.reduceEq, Nat.reduceLeDiff, Nat.reduceLT, Nat.reduceMul, Nat.reduceAdd, String.reduceEq]
  refine hQ .normal _ ?_; clear hQ Q
  refine TS.seq (TS.of [] fun Q hQ => ?_)
  simp only [go_sem, Nat.reduceEqDiff, Nat.reduceBEq, Int.reduceToNat, Int.reduceLT, Int.reduceLE, Int.reduceEq, Nat.reduceLeDiff, Nat.reduceLT, Nat.reduceMul, Nat.reduceAdd, String.reduceEq]
  refine cal_eq (h1 _) ?_
  simp only [go_sem, Nat.reduceEqDiff, Nat.reduceBEq, Int.reduceToNat, Int.reduceLT, Int.reduceLE, Int.reduceEq, Nat.reduceLeDiff, Nat.reduceLT, Nat.reduceMul, Nat.reduceAdd, String.reduceEq, encD]
  refine hQ .normal _ ?_; clear hQ Q
  refine TS.seq (TS.of [] fun Q hQ => ?_)
  simp only [go_sem, Nat.reduceEqDiff, Nat.reduceBEq, Int.reduceToNat, Int.reduceLT, Int.reduceLE, Int.reduceEq, Nat.reduceLeDiff, Nat.reduceLT, Nat.reduceMul, Nat.reduceAdd, String.reduceEq]
  refine hQ .normal _ ?_; clear hQ Q
  refine TS.seq (TS.of [] fun Q hQ => ?_)
  simp only [go_sem, Nat.reduceEqDiff, Nat.reduceBEq, Int.reduceToNat, Int.reduceLT, Int.reduceLE, Int.reduceEq, Nat.reduceLeDiff, Nat.reduceLT, Nat.reduceMul, Nat.reduceAdd, String.reduceEq, encD]
  refine cal_eq (ka _) ?_
  simp only [go_sem, Nat.reduceEqDiff, Nat.reduceBEq, Int.reduceToNat, Int.reduceLT, Int.reduceLE, Int.reduceEq, Nat.reduceLeDiff, Nat.reduceLT, Nat.reduceMul, Nat.reduceAdd, String.reduceEq, ints_one, ints_sh, ml60 l60]
  refine hQ .normal _ ?_; clear hQ Q
  refine TS.seq (TS.of [] fun Q hQ => ?_)
  simp only [go_sem, Nat.reduceEqDiff, Nat.reduceBEq, Int.reduceToNat, Int.reduceLT, Int.reduceLE, Int.reduceEq, Nat.reduceLeDiff, Nat.reduceLT, Nat.reduceMul, Nat.reduceAdd, String.reduceEq, ints_one, ints_sh, ml60 l60, le60 l60, tk60 l60, List.append_nil]
  refine hQ .normal _ ?_; clear hQ Q
  have hm := oC_map a b
  rw [e4] at hm
  by_cases hb : b = 0
  · subst hb
    have x0 : o0 a 0 = 0 := by rw [o0, if_pos rfl]
    have x1 : o1 a 0 = 0 := by rw [o1, if_pos rfl]
    have x2 : o2 a 0 = 0 := by rw [o2, x0, x1]; simp; decide
    rw [x0, x1, x2] at hm
    refine TS.of [] fun Q hQ => ?_
    simp only [go_sem, Nat.reduceEqDiff, Nat.reduceBEq, Int.reduceToNat, Int.reduceLT, Int.reduceLE, Int.reduceEq, Nat.reduceLeDiff, Nat.reduceLT, Nat.reduceMul, Nat.reduceAdd, String.reduceEq, errE_0, hm, o3, List.append_nil]
    refine hQ .ret _ ?_; clear hQ Q; refine post_ret _ _ (bb true) ?_ rfl (DropW.tail0 _ rfl) ⟨rfl, rfl⟩
    simp only [go_sem, Nat.reduceEqDiff, Nat.reduceBEq, Int.reduceToNat, Int.reduceLT, Int.reduceLE, Int.reduceEq, Nat.reduceLeDiff, Nat.reduceLT, Nat.reduceMul, Nat.reduceAdd, String.reduceEq]
  have x2 := o2_eq (b := b) ha0 ha1 hb
  have x1 := o1_sign (b := b) ha0 ha1 hb
  rw [x2] at hm
  generalize o1 a b = c1 at hm x1
  by_cases hc : c1 = 0
  · subst hc
    refine TS.of [] fun Q hQ => ?_
    simp only [go_sem, Nat.reduceEqDiff, Nat.reduceBEq, Int.reduceToNat, Int.reduceLT, Int.reduceLE, Int.reduceEq, Nat.reduceLeDiff, Nat.reduceLT, Nat.reduceMul, Nat.reduceAdd, String.reduceEq, errE_0, hm, o3, List.append_nil, eq_false hb]
    refine hQ .ret _ ?_; clear hQ Q; refine post_ret _ _ (bb true) ?_ rfl (DropW.tail0 _ rfl) ⟨rfl, rfl⟩
    simp only [go_sem, Nat.reduceEqDiff, Nat.reduceBEq, Int.reduceToNat, Int.reduceLT, Int.reduceLE, Int.reduceEq, Nat.reduceLeDiff, Nat.reduceLT, Nat.reduceMul, Nat.reduceAdd, String.reduceEq]
  · have x3 : c1 < 0 ↔ a < 0 := by rcases x1 with h | h; exact absurd h hc; exact h
    refine TS.of [] fun Q hQ => ?_
    simp only [go_sem, Nat.reduceEqDiff, Nat.reduceBEq, Int.reduceToNat, Int.reduceLT, Int.reduceLE, Int.reduceEq, Nat.reduceLeDiff, Nat.reduceLT, Nat.reduceMul, Nat.reduceAdd, String.reduceEq, errE_0, hm, o3, List.append_nil, eq_false hb, eq_false hc, x3]
    refine hQ .ret _ ?_; clear hQ Q; refine post_ret _ _ (bb true) ?_ rfl (DropW.tail0 _ rfl) ⟨rfl, rfl⟩
    simp only [go_sem, Nat.reduceEqDiff, Nat.reduceBEq, Int.reduceToNat, Int.reduceLT, Int.reduceLE, Int.reduceEq, Nat.reduceLeDiff, Nat.reduceLT, Nat.reduceMul, Nat.reduceAdd, String.reduceEq]
end Go.Proofs.Ytphjldhdnmoolaa.A
/- For every input EvalOperators answers true: what dividing is. -/
namespace Go.Proofs.Ytphjldhdnmoolaa.evalOperators
open Go Go.ChangeShapes Go.WideShapes Go.ChangeAt Go.RowKit Go.Joins Go.Proofs.Ytphjldhdnmoolaa.A
set_option maxRecDepth 100000 in
theorem lifted (os : Os) (started : os.Started) (H : Type) (enc : TypeId × Value → H) :
    ReturnsInHanded {} Try.checked os 17 .any (Rows.evalOperatorsSpec.pre6 enc Try.prog Try.f17 Rows.evalOperatorsRow.domain false) (Rows.evalOperatorsSpec.post enc Try.prog Try.f17 false true false false) := by
  refine returnsInHanded_of_change_sized (C := Try.checked) own started (by kernel_rfl) Try.func17
    (ChangeSpec.witness6 (enc := enc) (C := Try.checked) false ⟨#[], #[.int .i64 0, .int .i64 0], []⟩ 8 (by kernel_rfl) (by kernel_rfl) (by kernel_rfl) (by kernel_rfl)) ?_
  intro W base args ds gs before hval0 hW hcnd hsz0 _
  have hsz : (DataW.weightsEach Try.prog (Try.f17.params.toList ++ Rows.evalOperatorsSpec.plain.varTypes Try.prog) (ds ++ gs)).all (· ≤ reachBytes) = true := hsz0
  have hval : ∀ (j : Nat) t v, Try.f17.params[j]? = some t → args[j]? = some v → Value.okWide Try.prog W .any base t v := hval0
  have hW' := hW
  obtain ⟨p, q, hA0, hV, rfl, hfz, hnd⟩ := hW
  have hA : DataW.TrodAll enc Try.prog W 0 (fun _ => true) true Try.f17.params.toList args.toList ds p := hA0
  rw [Try.params17] at hA hval hsz
  obtain ⟨v0, vs0, d0, ds0, p0, q0, hargs, rfl, rfl, h0, r0⟩ := trodAll_cons hA
  obtain ⟨v1, vs1, d1, ds1, p1, q1, rfl, rfl, rfl, h1, r1⟩ := trodAll_cons r0
  obtain ⟨rfl, rfl, rfl⟩ := trodAll_nil r1
  obtain rfl : args = #[v0, v1] := by cases args; simp_all
  obtain ⟨rfl, rfl⟩ := trodVars_none hV
  obtain ⟨a0, rfl, rfl, rfl, w0⟩ := open_int Try.underlying3 (hval 0 3 v0 rfl rfl) h0
  obtain ⟨a1, rfl, rfl, rfl, w1⟩ := open_int Try.underlying3 (hval 1 3 v1 rfl rfl) h1
  clear hA0 hval0 hsz0
  refine (calls_of_sim (operators_law _ _ _ (int_wf w0).1 (by have := (int_wf w0).2; omega)) (relL_cons (rel_v _ _ _) (relL_cons (rel_v _ _ _) (relL_nil _ _)))).mono fun e W' ⟨he, bel⟩ => ?_
  subst he
  exact ⟨_, rfl, _, _, _, [], _, [], hW', trodAll_mk1 (shut_bool Try.underlying4 _), (trodAll_cons_mk (shut_int Try.underlying3 w0) (trodAll_cons_mk (shut_int Try.underlying3 w1) trodAll_mk0)), rfl, bel.frame _, fun h => by cases h⟩
set_option maxRecDepth 100000
theorem rec1 : Try.prog.recurses 17 = true := fact_recurses 17 90 (by kernel_rfl) (by kernel_rfl) (by kernel_rfl)
theorem q0 : (Rows.evalOperatorsRow.wf (OpenSpec.ofChange Rows.evalOperatorsSpec)) = true := by kernel_rfl
theorem q3 : (Try.f17.params.all (Try.prog.readableRec ·)) = true := by kernel_rfl
theorem q4 : (namedTie Try.prog Rows.evalOperatorsRow.named Rows.evalOperatorsSpec.vars) = true := by kernel_rfl
theorem q5 : (Rows.evalOperatorsRow.stops == []) = true := by kernel_rfl
theorem q7 : (Rows.evalOperatorsRow.knobs == []) = true := by kernel_rfl
theorem q9 : (Rows.evalOperatorsRow.inPlace == Try.prog.inPlace 17) = true := by kernel_rfl
theorem q10 : (Rows.evalOperatorsRow.unfollowed == Try.prog.unfollowed 17) = true := by kernel_rfl
theorem q11 : (Rows.evalOperatorsRow.recurses == Try.prog.recurses 17) = true := by rw [rec1]; kernel_rfl
theorem q12 : (Rows.evalOperatorsRow.named == Try.prog.varsNamed 17) = true := by kernel_rfl
theorem q13 : (Rows.evalOperatorsRow.maps == (Try.f17.params.toList ++ Rows.evalOperatorsSpec.plain.varTypes Try.prog).any (Try.prog.mapsRec ·)) = true := by kernel_rfl
theorem q14 : (Rows.evalOperatorsRow.ifaces == (Try.f17.params.toList ++ Rows.evalOperatorsSpec.plain.varTypes Try.prog).any (Try.prog.ifacesRec ·)) = true := by kernel_rfl
theorem q15 : (Rows.evalOperatorsRow.mapsOut == Try.prog.mapsAmong Try.f17.resultTypes.toList) = true := by kernel_rfl
theorem q16 : (Rows.evalOperatorsRow.loops == (Try.f17.params.toList ++ Rows.evalOperatorsSpec.plain.varTypes Try.prog).any (Try.prog.loopsFrom ·)) = true := by kernel_rfl
theorem q17 : (Rows.evalOperatorsRow.wideKeys == (Try.f17.params.toList ++ Rows.evalOperatorsSpec.plain.varTypes Try.prog ++ Try.f17.resultTypes.toList).any (Try.prog.wideKeysFrom ·)) = true := by kernel_rfl
theorem q18 : (Rows.evalOperatorsSpec.vars.all (Try.prog.varReadable ·)) = true := by kernel_rfl
theorem q19 : (Try.f17.resultTypes.all (fun t => Try.prog.readableRec t && decide (t < Try.prog.types.size))) = true := by kernel_rfl
theorem q20 : (Rows.evalOperatorsRow.ifacesOut == Try.f17.resultTypes.toList.any (Try.prog.ifacesRec ·)) = true := by kernel_rfl
theorem q21 : (Rows.evalOperatorsRow.loopsOut == Try.f17.resultTypes.toList.any (Try.prog.loopsFrom ·)) = true := by kernel_rfl
theorem q23 : (Rows.evalOperatorsRow.shortTexts.isNone) = true := by kernel_rfl
theorem q28 : (Rows.evalOperatorsRow.kinds == (if Rows.evalOperatorsRow.domain.isEmpty then [] else Try.f17.params.toList.map fun t => match Try.prog.underlying t with | some (.int k) => some k | _ => none)) = true := by kernel_rfl
theorem q29 : (Rows.evalOperatorsRow.pinned == Rows.evalOperatorsRow.pinnedBy) = true := by kernel_rfl
theorem q30 : (Rows.evalOperatorsRow.veiled == (Try.f17.params.toList ++ Rows.evalOperatorsSpec.plain.varTypes Try.prog ++ Try.f17.resultTypes.toList).any (Try.prog.veiledRec ·)) = true := by kernel_rfl
theorem q31 : (Rows.evalOperatorsRow.veiledFits Try.prog Try.f17.params.toList (Try.f17.params.toList ++ Rows.evalOperatorsSpec.plain.varTypes Try.prog ++ Try.f17.resultTypes.toList)) = true := by kernel_rfl
theorem joined : joinedFacts Try.prog 17 Try.f17 Rows.evalOperatorsSpec Rows.evalOperatorsRow = true := (and2 (and2 (and2 (and2 (and2 (and2 (and2 (and2 (and2 (and2 (and2 (and2 (and2 (and2 (and2 (and2 (and2 (and2 (and2 (and2 (and2 (and2 (and2 (and2 (and2 (and2 (and2 (and2 (and2 (and2 (and2 q0 fact_laid) fact_maps) q3) q4) q5) fact_stops) q7) fact_knobs) q9) q10) q11) q12) q13) q14) q15) q16) q17) q18) q19) q20) q21) fact_keys) q23) fact_heard) fact_enter) fact_lifted) fact_make) q28) q29) q30) q31)
theorem over : Rows.evalOperatorsRow.holds Try.pinned (OpenSpec.ofChange Rows.evalOperatorsSpec) :=
  OpenClaim.holds_of_wide 17 Try.f17 rfl rfl rfl rfl rfl rfl rfl ⟨rfl, rfl, rfl, rfl, rfl⟩ rfl rfl rfl rfl rfl (by kernel_rfl) Try.func17 joined
    (of_decide_eq_true (by kernel_rfl)) (by unfold Func.isWrapper; first | (rw [if_pos (by decide +kernel)]; kernel_rfl) | (rw [if_neg (by decide +kernel)]; exact ⟨rfl, rfl⟩))
    (fun os started H enc _ => lifted os started H enc)
theorem proved : Rows.EvalOperatorsSaid := over
#print axioms proved
end Go.Proofs.Ytphjldhdnmoolaa.evalOperators
namespace Go.Proofs.Ytphjldhdnmoolaa
/-- The row, under a short name, for the claim. -/
theorem evalOperators_holds : Rows.EvalOperatorsSaid := evalOperators.proved
end Go.Proofs.Ytphjldhdnmoolaa
