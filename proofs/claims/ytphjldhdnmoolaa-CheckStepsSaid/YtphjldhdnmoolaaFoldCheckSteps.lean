/- For every input CheckSteps answers true: loops within loops are counted. -/
import Derived.Test.YtphjldhdnmoolaaJBase5
import Derived.Test.YtphjldhdnmoolaaRows
set_option linter.unusedVariables false
set_option linter.unusedSimpArgs false
/- The walks of some functions over the abstract machine. -/
namespace Go.Proofs.Ytphjldhdnmoolaa.A
open Go
/-! closed texts, quickly; CheckScopes -/
def parseQ (s : Bytes) : Def × Int × Int :=
  let t := quick s
  if t.2.1 ≠ 0 then (D0, t.2.1, t.2.2)
  else let d := defP t.1
    if fixP t.1 d.2 < 0 then (D0, 8, (tk t.1 (-1 - fixP t.1 d.2)).p) else (d.1, 0, 0)
theorem parse_Q (s : Bytes) : parse s = parseQ s := by unfold parse parseQ; rw [tokens_quick]
def checkedQ (s : Bytes) : Info × Int × Int × Bool := if (parseQ s).2.1 = 0 then ((check (parseQ s).1).1, (faultP (check (parseQ s).1).2).1, (faultP (check (parseQ s).1).2).2, true) else (Info0, 0, 0, false)
theorem checked_Q (s : Bytes) : checkedP s = checkedQ s := by unfold checkedP checkedQ; rw [parse_Q]
theorem umodc (p : Int) (c : Nat) (hc : 0 < c) (hc' : c < 1000) : ∃ k : Nat, k < c ∧ IntKind.i64.wrap ((IntKind.u64.wrap p).tmod c) = (k : Int) := by
  have h0 : 0 ≤ IntKind.u64.wrap p := by simp only [IntKind.wrap, IntKind.bits, IntKind.signed]; simp; omega
  have h1 := Int.emod_nonneg (IntKind.u64.wrap p) (b := (c : Int)) (by omega)
  have h2 := Int.emod_lt_of_pos (IntKind.u64.wrap p) (b := (c : Int)) (by omega)
  refine ⟨((IntKind.u64.wrap p).tmod c).toNat, ?_, ?_⟩
  · rw [Int.tmod_eq_emod_of_nonneg h0]; omega
  · rw [Int.tmod_eq_emod_of_nonneg h0, wrap_small (by omega) (by omega)]; omega
theorem scope_mod (p : Int) : ∃ k : Nat, k < 6 ∧ IntKind.i64.wrap ((IntKind.u64.wrap p).tmod 6) = (k : Int) := umodc p 6 (by decide) (by decide)
abbrev scT (a b c d e f : Bytes) : Bytes := (⟨#[111, 112, 32, 111, 40, 41, 32, 123, 32]⟩ : Bytes) ++ a ++ ⟨#[105, 102, 32, 116, 114, 117, 101, 32, 123, 32]⟩ ++ b ++ ⟨#[108, 101, 116, 32, 119, 32, 61, 32, 49, 59, 32]⟩ ++ c ++ ⟨#[102, 111, 114, 32, 105, 32, 105, 110, 32, 48, 46, 46, 50, 32, 123, 32]⟩ ++ d ++ ⟨#[125, 32, 125, 32, 101, 108, 115, 101, 32, 123, 32]⟩ ++ e ++ ⟨#[125, 32]⟩ ++ f ++ ⟨#[125]⟩
abbrev scU : Bytes := ⟨#[91, 119, 93, 32, 61, 32, 49, 59, 32]⟩
abbrev scE : Bytes := ⟨#[]⟩
set_option maxRecDepth 100000
theorem sc0 : checkedP (scT scU scE scE scE scE scE) = (Info0, 9, 10, true) ∧ (scT scU scE scE scE scE scE)[10]? = some 119 := ⟨by rw [checked_Q]; kernel_rfl, by kernel_rfl⟩
theorem sc1 : checkedP (scT scE scU scE scE scE scE) = (Info0, 9, 20, true) ∧ (scT scE scU scE scE scE scE)[20]? = some 119 := ⟨by rw [checked_Q]; kernel_rfl, by kernel_rfl⟩
theorem sc2 : (checkedP (scT scE scE scU scE scE scE)).2.1 = 0 ∧ (checkedP (scT scE scE scU scE scE scE)).1.mode = 3 ∧ (checkedP (scT scE scE scU scE scE scE)).1.names = 2 ∧ (checkedP (scT scE scE scU scE scE scE)).2.2.2 = true := by rw [checked_Q]; exact ⟨by kernel_rfl, by kernel_rfl, by kernel_rfl, by kernel_rfl⟩
theorem sc3 : (checkedP (scT scE scE scE scU scE scE)).2.1 = 0 ∧ (checkedP (scT scE scE scE scU scE scE)).1.mode = 3 ∧ (checkedP (scT scE scE scE scU scE scE)).1.names = 2 ∧ (checkedP (scT scE scE scE scU scE scE)).2.2.2 = true := by rw [checked_Q]; exact ⟨by kernel_rfl, by kernel_rfl, by kernel_rfl, by kernel_rfl⟩
theorem sc4 : checkedP (scT scE scE scE scE scU scE) = (Info0, 9, 58, true) ∧ (scT scE scE scE scE scU scE)[58]? = some 119 := ⟨by rw [checked_Q]; kernel_rfl, by kernel_rfl⟩
theorem sc5 : checkedP (scT scE scE scE scE scE scU) = (Info0, 9, 60, true) ∧ (scT scE scE scE scE scE scU)[60]? = some 119 := ⟨by rw [checked_Q]; kernel_rfl, by kernel_rfl⟩
set_option maxRecDepth 100000 in
set_option maxHeartbeats 4000000 in
theorem scopes_law (m : Mem) (p : Int) : Sim 10 [ii p] m (fun r m' => r = bb true ∧ m' = m) := by
  obtain ⟨k, hk, hkw⟩ := scope_mod p
  refine Sim.ofS 78 [.tmp 2] Try.func10 rfl rfl rfl (by simp) fun wr => ?_
  simp only [go_sem, true_or, or_true, Int.cast_ofNat_Int, not_true_eq_false, true_implies, forall_const, not_false_eq_true, List.size_toArray, Array.size_empty, and_self, ne_eq, not_false_eq_true, Nat.reduceEqDiff, Nat.mul_one, List.contains_nil, List.contains_cons, Bool.false_or, Bool.or_false, false_implies, implies_true, beq_self_eq_true, Nat.reduceBEq, Int.ofNat_le, Int.reduceToNat, Int.reduceLT, Int.reduceLE, Int.reduceEq, Nat.reduceLeDiff, Nat.reduceLT, Nat.reduceEqDiff, Nat.reduceMul, Nat.reduceAdd, Nat.reduceBEq, List.length_cons, List.length_nil, String.reduceEq]
  refine TS.seq (TS.of [] fun Q hQ => ?_)
  simp only [go_sem, true_or, or_true, Int.cast_ofNat_Int, not_true_eq_false, true_implies, forall_const, not_false_eq_true, List.size_toArray, Array.size_empty, and_self, ne_eq, not_false_eq_true, Nat.reduceEqDiff, Nat.mul_one, List.contains_nil, List.contains_cons, Bool.false_or, Bool.or_false, false_implies, implies_true, beq_self_eq_true, Nat.reduceBEq, Int.ofNat_le, Int.reduceToNat, Int.reduceLT, Int.reduceLE, Int.reduceEq, Nat.reduceLeDiff, Nat.reduceLT, Nat.reduceEqDiff, Nat.reduceMul, Nat.reduceAdd, Nat.reduceBEq, List.length_cons, List.length_nil, String.reduceEq]
  refine hQ .normal _ ?_; clear hQ Q
  refine TS.seq (TS.of [] fun Q hQ => ?_)
  simp only [go_sem, true_or, or_true, Int.cast_ofNat_Int, not_true_eq_false, true_implies, forall_const, not_false_eq_true, List.size_toArray, Array.size_empty, and_self, ne_eq, not_false_eq_true, Nat.reduceEqDiff, Nat.mul_one, List.contains_nil, List.contains_cons, Bool.false_or, Bool.or_false, false_implies, implies_true, beq_self_eq_true, Nat.reduceBEq, Int.ofNat_le, Int.reduceToNat, Int.reduceLT, Int.reduceLE, Int.reduceEq, Nat.reduceLeDiff, Nat.reduceLT, Nat.reduceEqDiff, Nat.reduceMul, Nat.reduceAdd, Nat.reduceBEq, List.length_cons, List.length_nil, String.reduceEq]
  refine cal_eq (alive8_sim _) ?_
  simp only [go_sem, true_or, or_true, Int.cast_ofNat_Int, not_true_eq_false, true_implies, forall_const, not_false_eq_true, List.size_toArray, Array.size_empty, and_self, ne_eq, not_false_eq_true, Nat.reduceEqDiff, Nat.mul_one, List.contains_nil, List.contains_cons, Bool.false_or, Bool.or_false, false_implies, implies_true, beq_self_eq_true, Nat.reduceBEq, Int.ofNat_le, Int.reduceToNat, Int.reduceLT, Int.reduceLE, Int.reduceEq, Nat.reduceLeDiff, Nat.reduceLT, Nat.reduceEqDiff, Nat.reduceMul, Nat.reduceAdd, Nat.reduceBEq, List.length_cons, List.length_nil, String.reduceEq]
  refine hQ .normal _ ?_; clear hQ Q
  refine TS.seq (TS.of [] fun Q hQ => ?_)
  simp only [go_sem, true_or, or_true, Int.cast_ofNat_Int, not_true_eq_false, true_implies, forall_const, not_false_eq_true, List.size_toArray, Array.size_empty, and_self, ne_eq, not_false_eq_true, Nat.reduceEqDiff, Nat.mul_one, List.contains_nil, List.contains_cons, Bool.false_or, Bool.or_false, false_implies, implies_true, beq_self_eq_true, Nat.reduceBEq, Int.ofNat_le, Int.reduceToNat, Int.reduceLT, Int.reduceLE, Int.reduceEq, Nat.reduceLeDiff, Nat.reduceLT, Nat.reduceEqDiff, Nat.reduceMul, Nat.reduceAdd, Nat.reduceBEq, List.length_cons, List.length_nil, String.reduceEq]
  refine hQ .normal _ ?_; clear hQ Q
  have hk6 : k = 0 ∨ k = 1 ∨ k = 2 ∨ k = 3 ∨ k = 4 ∨ k = 5 := by omega
  rcases hk6 with rfl | rfl | rfl | rfl | rfl | rfl
  all_goals refine TS.of [] fun Q hQ => ?_
  all_goals (simp only [go_sem, true_or, or_true, Int.cast_ofNat_Int, not_true_eq_false, true_implies, forall_const, not_false_eq_true, List.size_toArray, Array.size_empty, and_self, ne_eq, not_false_eq_true, Nat.reduceEqDiff, Nat.mul_one, List.contains_nil, List.contains_cons, Bool.false_or, Bool.or_false, false_implies, implies_true, beq_self_eq_true, Nat.reduceBEq, Int.ofNat_le, Int.reduceToNat, Int.reduceLT, Int.reduceLE, Int.reduceEq, Nat.reduceLeDiff, Nat.reduceLT, Nat.reduceEqDiff, Nat.reduceMul, Nat.reduceAdd, Nat.reduceBEq, List.length_cons, List.length_nil, String.reduceEq, hkw, show ¬ ((6 : Int) = 0) by decide])
  case' inr.inr.inl => obtain ⟨q1, q2, q3, q4⟩ := sc2
  case' inr.inr.inr.inl => obtain ⟨q1, q2, q3, q4⟩ := sc3
  case' inl =>
    refine cal_eq (checked_sim _ (scT scU scE scE scE scE scE) (by decide) parse_ok) ?_
    rw [sc0.1]
    have hix := sc0.2
  case' inr.inl =>
    refine cal_eq (checked_sim _ (scT scE scU scE scE scE scE) (by decide) parse_ok) ?_
    rw [sc1.1]
    have hix := sc1.2
  case' inr.inr.inl =>
    refine cal_eq (checked_sim _ (scT scE scE scU scE scE scE) (by decide) parse_ok) ?_
    generalize checkedP _ = X at q1 q2 q3 q4
  case' inr.inr.inr.inl =>
    refine cal_eq (checked_sim _ (scT scE scE scE scU scE scE) (by decide) parse_ok) ?_
    generalize checkedP _ = X at q1 q2 q3 q4
  case' inr.inr.inr.inr.inl =>
    refine cal_eq (checked_sim _ (scT scE scE scE scE scU scE) (by decide) parse_ok) ?_
    rw [sc4.1]
    have hix := sc4.2
  case' inr.inr.inr.inr.inr =>
    refine cal_eq (checked_sim _ (scT scE scE scE scE scE scU) (by decide) parse_ok) ?_
    rw [sc5.1]
    have hix := sc5.2
  all_goals first | (simp only [go_sem, true_or, or_true, Int.cast_ofNat_Int, not_true_eq_false, true_implies, forall_const, not_false_eq_true, List.size_toArray, Array.size_empty, and_self, ne_eq, not_false_eq_true, Nat.reduceEqDiff, Nat.mul_one, List.contains_nil, List.contains_cons, Bool.false_or, Bool.or_false, false_implies, implies_true, beq_self_eq_true, Nat.reduceBEq, Int.ofNat_le, Int.reduceToNat, Int.reduceLT, Int.reduceLE, Int.reduceEq, Nat.reduceLeDiff, Nat.reduceLT, Nat.reduceEqDiff, Nat.reduceMul, Nat.reduceAdd, Nat.reduceBEq, List.length_cons, List.length_nil, String.reduceEq, q1, q2, q3, q4]) | (simp only [go_sem, true_or, or_true, Int.cast_ofNat_Int, not_true_eq_false, true_implies, forall_const, not_false_eq_true, List.size_toArray, Array.size_empty, and_self, ne_eq, not_false_eq_true, Nat.reduceEqDiff, Nat.mul_one, List.contains_nil, List.contains_cons, Bool.false_or, Bool.or_false, false_implies, implies_true, beq_self_eq_true, Nat.reduceBEq, Int.ofNat_le, Int.reduceToNat, Int.reduceLT, Int.reduceLE, Int.reduceEq, Nat.reduceLeDiff, Nat.reduceLT, Nat.reduceEqDiff, Nat.reduceMul, Nat.reduceAdd, Nat.reduceBEq, List.length_cons, List.length_nil, String.reduceEq, hix])
  all_goals (refine hQ .ret _ ?_; clear hQ Q; refine post_ret _ _ (bb true) ?_ rfl (DropW.tail0 _ rfl) ⟨rfl, rfl⟩)
  all_goals simp only [go_sem, true_or, or_true, Int.cast_ofNat_Int, not_true_eq_false, true_implies, forall_const, not_false_eq_true, List.size_toArray, Array.size_empty, and_self, ne_eq, not_false_eq_true, Nat.reduceEqDiff, Nat.mul_one, List.contains_nil, List.contains_cons, Bool.false_or, Bool.or_false, false_implies, implies_true, beq_self_eq_true, Nat.reduceBEq, Int.ofNat_le, Int.reduceToNat, Int.reduceLT, Int.reduceLE, Int.reduceEq, Nat.reduceLeDiff, Nat.reduceLT, Nat.reduceEqDiff, Nat.reduceMul, Nat.reduceAdd, Nat.reduceBEq, List.length_cons, List.length_nil, String.reduceEq]
  all_goals rfl
end Go.Proofs.Ytphjldhdnmoolaa.A
/- The walks of some functions over the abstract machine. -/
namespace Go.Proofs.Ytphjldhdnmoolaa.A
open Go
/-! CheckSteps: what the program finds of the law's text -/
theorem lexR_fuel : ∀ (f g : Nat) (r : List UInt8) (p : Nat), r.length < f → r.length < g → lexR f r p = lexR g r p
  | 0, _, _, _, h, _ => by omega
  | _ + 1, 0, _, _, _, h => by omega
  | f + 1, g + 1, [], p, _, _ => rfl
  | f + 1, g + 1, b :: r, p, h1, h2 => by
    rw [List.length_cons] at h1 h2
    unfold lexR
    by_cases hs : b.toNat = 32 ∨ b.toNat = 9 ∨ b.toNat = 10
    · rw [if_pos hs, if_pos hs]; exact lexR_fuel f g r _ (by omega) (by omega)
    · rw [if_neg hs, if_neg hs]
      by_cases hc : b.toNat = 35
      · rw [if_pos hc, if_pos hc]
        have hgt : 0 < nlen (b :: r) := by unfold nlen; rw [List.takeWhile_cons]; simp [hc]
        have hl : ((b :: r).drop (nlen (b :: r))).length ≤ r.length := by rw [List.length_drop, List.length_cons]; omega
        exact lexR_fuel f g _ _ (by omega) (by omega)
      · rw [if_neg hc, if_neg hc]
        by_cases h0 : kindL (b :: r) = 0
        · rw [if_pos h0, if_pos h0]
        · rw [if_neg h0, if_neg h0]
          have hp := kind_pos h0
          have hl : ((b :: r).drop (tlen (b :: r))).length ≤ r.length := by rw [List.length_drop, List.length_cons]; omega
          rw [lexR_fuel f g _ _ (by omega) (by omega)]
theorem while_app (p : UInt8 → Bool) (B : List UInt8) (c : UInt8) (hc : p c = false) : ∀ q : List UInt8, q.all p = true → (q ++ c :: B).takeWhile p = q
  | [], _ => by simp [List.takeWhile_cons, hc]
  | d :: q, h => by
    rw [List.all_cons, Bool.and_eq_true] at h
    rw [List.cons_append, List.takeWhile_cons, if_pos h.1, while_app p B c hc q h.2]
theorem lexR_num (f : Nat) (d : UInt8) (q B : List UInt8) (p : Nat) (h : (d :: q).all isDig = true) (hn : numOK (ofL (d :: q)) = true) : lexR (f + 1) (d :: q ++ 32 :: B) p = consT ⟨2, ofL (d :: q), p⟩ (lexR f (32 :: B) (p + (q.length + 1))) := by
  rw [List.all_cons, Bool.and_eq_true] at h
  have hf := dig_facts d h.1
  have hw := while_app isDig B 32 (by decide) q h.2
  have ht : tlen (d :: (q ++ 32 :: B)) = q.length + 1 := by rw [tlen.eq_2, if_neg (by simp [hf]), if_pos h.1, hw, Nat.add_comm]
  have hk : kindL (d :: (q ++ 32 :: B)) = 2 := by simp only [kindL]; rw [if_neg (by simp [hf]), if_pos h.1, hw, if_pos hn]
  rw [List.cons_append]
  conv => lhs; unfold lexR
  rw [if_neg (by simp [hf]), if_neg (by simp [hf]), hk, if_neg (by decide), ht]
  congr 2
  · rw [List.take_succ_cons, List.take_left]
  · rw [List.drop_succ_cons, List.drop_left]
abbrev stA : Bytes := ⟨#[111, 112, 32, 111, 40, 41, 32, 123, 32, 102, 111, 114, 32, 105, 32, 105, 110, 32, 48, 46, 46]⟩
abbrev stB : Bytes := ⟨#[32, 123, 32, 102, 111, 114, 32, 106, 32, 105, 110, 32, 48, 46, 46]⟩
abbrev stC : Bytes := ⟨#[32, 123, 32, 91, 48, 93, 32, 43, 61, 32, 49, 59, 32, 125, 32, 125, 32, 125]⟩
abbrev stT (a b : Bytes) : Bytes := stA ++ a ++ stB ++ b ++ stC
def stK (a b : Bytes) (q r : Nat) : List Tok := [⟨1, ⟨#[111, 112]⟩, 0⟩, ⟨1, ⟨#[111]⟩, 3⟩, ⟨3, ⟨#[40]⟩, 4⟩, ⟨3, ⟨#[41]⟩, 5⟩, ⟨3, ⟨#[123]⟩, 7⟩, ⟨1, ⟨#[102, 111, 114]⟩, 9⟩, ⟨1, ⟨#[105]⟩, 13⟩, ⟨1, ⟨#[105, 110]⟩, 15⟩, ⟨2, ⟨#[48]⟩, 18⟩, ⟨3, ⟨#[46, 46]⟩, 19⟩, ⟨2, a, 21⟩, ⟨3, ⟨#[123]⟩, ((q + 1 : Nat) : Int)⟩, ⟨1, ⟨#[102, 111, 114]⟩, ((q + 3 : Nat) : Int)⟩, ⟨1, ⟨#[106]⟩, ((q + 7 : Nat) : Int)⟩, ⟨1, ⟨#[105, 110]⟩, ((q + 9 : Nat) : Int)⟩, ⟨2, ⟨#[48]⟩, ((q + 12 : Nat) : Int)⟩, ⟨3, ⟨#[46, 46]⟩, ((q + 13 : Nat) : Int)⟩, ⟨2, b, ((q + 15 : Nat) : Int)⟩, ⟨3, ⟨#[123]⟩, ((r + 1 : Nat) : Int)⟩, ⟨3, ⟨#[91]⟩, ((r + 3 : Nat) : Int)⟩, ⟨2, ⟨#[48]⟩, ((r + 4 : Nat) : Int)⟩, ⟨3, ⟨#[93]⟩, ((r + 5 : Nat) : Int)⟩, ⟨3, ⟨#[43, 61]⟩, ((r + 7 : Nat) : Int)⟩, ⟨2, ⟨#[49]⟩, ((r + 10 : Nat) : Int)⟩, ⟨3, ⟨#[59]⟩, ((r + 11 : Nat) : Int)⟩, ⟨3, ⟨#[125]⟩, ((r + 13 : Nat) : Int)⟩, ⟨3, ⟨#[125]⟩, ((r + 15 : Nat) : Int)⟩, ⟨3, ⟨#[125]⟩, ((r + 17 : Nat) : Int)⟩, ⟨4, ByteArray.empty, ((r + 18 : Nat) : Int)⟩]
set_option maxRecDepth 100000
theorem lex1 (f : Nat) (X : List UInt8) : lexR (f + 30) (L stA ++ X) 0 = consT ⟨1, ⟨#[111, 112]⟩, 0⟩ (consT ⟨1, ⟨#[111]⟩, 3⟩ (consT ⟨3, ⟨#[40]⟩, 4⟩ (consT ⟨3, ⟨#[41]⟩, 5⟩ (consT ⟨3, ⟨#[123]⟩, 7⟩ (consT ⟨1, ⟨#[102, 111, 114]⟩, 9⟩ (consT ⟨1, ⟨#[105]⟩, 13⟩ (consT ⟨1, ⟨#[105, 110]⟩, 15⟩ (consT ⟨2, ⟨#[48]⟩, 18⟩ (consT ⟨3, ⟨#[46, 46]⟩, 19⟩ (lexR (f + 14) X 21)))))))))) := by kernel_rfl
theorem lex2 (f q : Nat) (X : List UInt8) : lexR (f + 30) (L stB ++ X) q = consT ⟨3, ⟨#[123]⟩, ((q + 1 : Nat) : Int)⟩ (consT ⟨1, ⟨#[102, 111, 114]⟩, ((q + 3 : Nat) : Int)⟩ (consT ⟨1, ⟨#[106]⟩, ((q + 7 : Nat) : Int)⟩ (consT ⟨1, ⟨#[105, 110]⟩, ((q + 9 : Nat) : Int)⟩ (consT ⟨2, ⟨#[48]⟩, ((q + 12 : Nat) : Int)⟩ (consT ⟨3, ⟨#[46, 46]⟩, ((q + 13 : Nat) : Int)⟩ (lexR (f + 19) X (q + 15))))))) := by kernel_rfl
theorem lex3 (f r : Nat) : lexR (f + 30) (L stC) r = ([⟨3, ⟨#[123]⟩, ((r + 1 : Nat) : Int)⟩, ⟨3, ⟨#[91]⟩, ((r + 3 : Nat) : Int)⟩, ⟨2, ⟨#[48]⟩, ((r + 4 : Nat) : Int)⟩, ⟨3, ⟨#[93]⟩, ((r + 5 : Nat) : Int)⟩, ⟨3, ⟨#[43, 61]⟩, ((r + 7 : Nat) : Int)⟩, ⟨2, ⟨#[49]⟩, ((r + 10 : Nat) : Int)⟩, ⟨3, ⟨#[59]⟩, ((r + 11 : Nat) : Int)⟩, ⟨3, ⟨#[125]⟩, ((r + 13 : Nat) : Int)⟩, ⟨3, ⟨#[125]⟩, ((r + 15 : Nat) : Int)⟩, ⟨3, ⟨#[125]⟩, ((r + 17 : Nat) : Int)⟩, ⟨4, ByteArray.empty, ((r + 18 : Nat) : Int)⟩], 0, 0) := by kernel_rfl
theorem L_app (a b : Bytes) : L (a ++ b) = L a ++ L b := by unfold L; simp
structure Dg (a : Bytes) : Prop where
  ne : L a ≠ []
  dig : (L a).all isDig = true
  ok : numOK a = true
  len : (L a).length ≤ 2
theorem lexR_dg {a : Bytes} (h : Dg a) (f : Nat) (B : List UInt8) (p : Nat) : lexR (f + 1) (L a ++ 32 :: B) p = consT ⟨2, a, p⟩ (lexR f (32 :: B) (p + (L a).length)) := by
  have h1 := h.ne
  have h2 := h.dig
  have h3 := h.ok
  rw [← ofL_L a] at h3
  have h4 := ofL_L a
  cases e : L a with
  | nil => exact absurd e h1
  | cons d q =>
    rw [e] at h2 h3 h4
    have h5 := lexR_num f d q B p h2 h3
    rw [h4] at h5
    exact h5
theorem stTok (a b : Bytes) (ha : Dg a) (hb : Dg b) : tokens (stT a b) = (stK a b (21 + (L a).length) (21 + (L a).length + 15 + (L b).length), 0, 0) := by
  have hL : L (stT a b) = L stA ++ (L a ++ (L stB ++ (L b ++ L stC))) := by simp only [stT, L_app, List.append_assoc]
  have hz : (stT a b).size = (L (stT a b)).length := (L_len _).symm
  have hl1 := ha.len
  have hl2 := hb.len
  have hlen : (L (stT a b)).length ≤ 70 := by
    rw [hL]
    simp only [List.length_append]
    have e1 : (L stA).length = 21 := rfl
    have e2 : (L stB).length = 15 := rfl
    have e3 : (L stC).length = 18 := rfl
    omega
  rw [tokens_quick, quick, if_neg (by omega), lexR_fuel _ 1059 _ _ (by omega) (by omega), hL]
  have eB : ∃ B, L stB = 32 :: B := ⟨_, rfl⟩
  have eC : ∃ C, L stC = 32 :: C := ⟨_, rfl⟩
  obtain ⟨B, eB⟩ := eB
  obtain ⟨C, eC⟩ := eC
  rw [lex1 1029]
  have h1 := lexR_dg ha 1042 (B ++ (L b ++ L stC)) 21
  rw [← List.cons_append, ← eB] at h1
  rw [h1, lex2 1012]
  have h2 := lexR_dg hb 1030 C (21 + (L a).length + 15)
  rw [← eC] at h2
  rw [h2, lex3 1000]
  rfl
def stD (a b : Bytes) (q r : Nat) : Def := ⟨⟨#[111]⟩, [], [], [.mk 7 ⟨#[105]⟩ [] (numV a) [.mk 7 ⟨#[106]⟩ [] (numV b) [.mk 3 ByteArray.empty [.mk 1 0 ByteArray.empty [] ((r + 4 : Nat) : Int), .mk 1 1 ByteArray.empty [] ((r + 10 : Nat) : Int)] 0 [] [] ((r + 3 : Nat) : Int)] [] ((q + 3 : Nat) : Int)] [] 9], []⟩
theorem stP (a b : Bytes) (q r : Nat) : defP (stK a b q r) = (stD a b q r, 28) := by kernel_rfl
def dgOK (n : Nat) : Bool := !(L (dec n)).isEmpty && ((L (dec n)).all isDig && (numOK (dec n) && (decide ((L (dec n)).length = if n < 10 then 1 else 2) && decide (numV (dec n) = n))))
theorem dg66 : (List.range 66).all dgOK = true := by kernel_rfl
theorem dg_of {n : Nat} (h : n < 66) : Dg (dec n) ∧ (L (dec n)).length = (if n < 10 then 1 else 2) ∧ numV (dec n) = n := by
  have h1 := List.all_eq_true.1 dg66 n (List.mem_range.2 h)
  unfold dgOK at h1
  simp only [Bool.and_eq_true, Bool.not_eq_true', decide_eq_true_eq] at h1
  obtain ⟨h1, h2, h3, h4, h5⟩ := h1
  refine ⟨⟨(fun e => by rw [e] at h1; cases h1), h2, h3, (by rw [h4]; split <;> omega)⟩, h4, h5⟩
def stN (a b : Int) (q r : Nat) : Def := ⟨⟨#[111]⟩, [], [], [.mk 7 ⟨#[105]⟩ [] a [.mk 7 ⟨#[106]⟩ [] b [.mk 3 ByteArray.empty [.mk 1 0 ByteArray.empty [] ((r + 4 : Nat) : Int), .mk 1 1 ByteArray.empty [] ((r + 10 : Nat) : Int)] 0 [] [] ((r + 3 : Nat) : Int)] [] ((q + 3 : Nat) : Int)] [] 9], []⟩
def stF (a b : Int) (q : Nat) : Int × Int := if 64 < a then (11, 9) else if 64 < b then (11, ((q + 3 : Nat) : Int)) else if 2048 < 1 + a * (2 + b * 4) then (11, 0) else (0, 0)
def stOK (a b q r : Nat) : Bool :=
  let c := check (stN a b q r)
  decide (faultP c.2 = stF a b q) && (!decide (stF a b q = (0, 0)) || (decide (c.1.steps = 1 + a * (2 + b * 4)) && (decide (c.1.mode = 2) && (decide (c.1.names = 2) && c.1.turns))))
def stq (a : Nat) : Nat := 21 + if a < 10 then 1 else 2
def str (a b : Nat) : Nat := stq a + 15 + if b < 10 then 1 else 2
theorem st66 : (List.range 66).all (fun a => (List.range 66).all fun b => stOK a b (stq a) (str a b)) = true := by kernel_rfl
theorem st_checked (a b : Nat) (ha : a < 66) (hb : b < 66) : ∃ x : Info, checkedP (stT (dec a) (dec b)) = (x, (stF a b (stq a)).1, (stF a b (stq a)).2, true) ∧ (stF a b (stq a) = (0, 0) → x.steps = 1 + (a : Int) * (2 + b * 4) ∧ x.mode = 2 ∧ x.names = 2 ∧ x.turns = true) := by
  obtain ⟨da, la, va⟩ := dg_of ha
  obtain ⟨db, lb, vb⟩ := dg_of hb
  have ht := stTok (dec a) (dec b) da db
  rw [la, lb] at ht
  have hp : parse (stT (dec a) (dec b)) = (stN a b (stq a) (str a b), 0, 0) := by
    unfold parse
    rw [ht]
    have h1 := stP (dec a) (dec b) (21 + if a < 10 then 1 else 2) (21 + (if a < 10 then 1 else 2) + 15 + if b < 10 then 1 else 2)
    dsimp only
    rw [h1, if_neg (by simp)]
    have h2 : fixP (stK (dec a) (dec b) (21 + if a < 10 then 1 else 2) (21 + (if a < 10 then 1 else 2) + 15 + if b < 10 then 1 else 2)) 28 = 28 := by kernel_rfl
    rw [h2, if_neg (by decide)]
    unfold stD
    rw [va, vb]
    rfl
  have h3 := List.all_eq_true.1 (List.all_eq_true.1 st66 a (List.mem_range.2 ha)) b (List.mem_range.2 hb)
  unfold stOK at h3
  simp only [Bool.and_eq_true, Bool.or_eq_true, Bool.not_eq_true', decide_eq_true_eq, decide_eq_false_iff_not] at h3
  refine ⟨(check (stN a b (stq a) (str a b))).1, ?_, fun h => ?_⟩
  · unfold checkedP; rw [hp, if_pos rfl, h3.1]
  · rcases h3.2 with g | g
    · exact absurd h g
    · exact g
end Go.Proofs.Ytphjldhdnmoolaa.A
/- The walks of some functions over the abstract machine. -/
namespace Go.Proofs.Ytphjldhdnmoolaa.A
open Go
theorem step_mod (p : Int) : ∃ k : Nat, k < 66 ∧ IntKind.i64.wrap ((IntKind.u64.wrap p).tmod 66) = (k : Int) := umodc p 66 (by decide) (by decide)
set_option maxRecDepth 100000 in
set_option maxHeartbeats 4000000 in
theorem steps_law (m : Mem) (p1 p2 : Int) : Sim 8 [ii p1, ii p2] m (fun r m' => r = bb true ∧ m' = m) := by
  obtain ⟨a, ha, haw⟩ := step_mod p1
  obtain ⟨b, hb, hbw⟩ := step_mod p2
  obtain ⟨x, hx, hok⟩ := st_checked a b ha hb
  refine Sim.ofS 94 [.tmp 4] Try.func8 rfl rfl rfl (by simp) fun wr => ?_
  simp only [go_sem, true_or, or_true, Int.cast_ofNat_Int, not_true_eq_false, true_implies, forall_const, not_false_eq_true, List.size_toArray, Array.size_empty, and_self, ne_eq, not_false_eq_true, Nat.reduceEqDiff, Nat.mul_one, List.contains_nil, List.contains_cons, Bool.false_or, Bool.or_false, false_implies, implies_true, beq_self_eq_true, Nat.reduceBEq, Int.ofNat_le, Int.reduceToNat, Int.reduceLT, Int.reduceLE, Int.reduceEq, Nat.reduceLeDiff, Nat.reduceLT, Nat.reduceEqDiff, Nat.reduceMul, Nat.reduceAdd, Nat.reduceBEq, List.length_cons, List.length_nil, String.reduceEq]
  refine TS.seq (TS.of [] fun Q hQ => ?_)
  simp only [go_sem, true_or, or_true, Int.cast_ofNat_Int, not_true_eq_false, true_implies, forall_const, not_false_eq_true, List.size_toArray, Array.size_empty, and_self, ne_eq, not_false_eq_true, Nat.reduceEqDiff, Nat.mul_one, List.contains_nil, List.contains_cons, Bool.false_or, Bool.or_false, false_implies, implies_true, beq_self_eq_true, Nat.reduceBEq, Int.ofNat_le, Int.reduceToNat, Int.reduceLT, Int.reduceLE, Int.reduceEq, Nat.reduceLeDiff, Nat.reduceLT, Nat.reduceEqDiff, Nat.reduceMul, Nat.reduceAdd, Nat.reduceBEq, List.length_cons, List.length_nil, String.reduceEq]
  refine hQ .normal _ ?_; clear hQ Q
  refine TS.seq (TS.of [] fun Q hQ => ?_)
  simp only [go_sem, true_or, or_true, Int.cast_ofNat_Int, not_true_eq_false, true_implies, forall_const, not_false_eq_true, List.size_toArray, Array.size_empty, and_self, ne_eq, not_false_eq_true, Nat.reduceEqDiff, Nat.mul_one, List.contains_nil, List.contains_cons, Bool.false_or, Bool.or_false, false_implies, implies_true, beq_self_eq_true, Nat.reduceBEq, Int.ofNat_le, Int.reduceToNat, Int.reduceLT, Int.reduceLE, Int.reduceEq, Nat.reduceLeDiff, Nat.reduceLT, Nat.reduceEqDiff, Nat.reduceMul, Nat.reduceAdd, Nat.reduceBEq, List.length_cons, List.length_nil, String.reduceEq]
  refine cal_eq (alive8_sim _) ?_
  simp only [go_sem, true_or, or_true, Int.cast_ofNat_Int, not_true_eq_false, true_implies, forall_const, not_false_eq_true, List.size_toArray, Array.size_empty, and_self, ne_eq, not_false_eq_true, Nat.reduceEqDiff, Nat.mul_one, List.contains_nil, List.contains_cons, Bool.false_or, Bool.or_false, false_implies, implies_true, beq_self_eq_true, Nat.reduceBEq, Int.ofNat_le, Int.reduceToNat, Int.reduceLT, Int.reduceLE, Int.reduceEq, Nat.reduceLeDiff, Nat.reduceLT, Nat.reduceEqDiff, Nat.reduceMul, Nat.reduceAdd, Nat.reduceBEq, List.length_cons, List.length_nil, String.reduceEq]
  refine hQ .normal _ ?_; clear hQ Q
  refine TS.seq (TS.of [] fun Q hQ => ?_)
  simp only [go_sem, true_or, or_true, Int.cast_ofNat_Int, not_true_eq_false, true_implies, forall_const, not_false_eq_true, List.size_toArray, Array.size_empty, and_self, ne_eq, not_false_eq_true, Nat.reduceEqDiff, Nat.mul_one, List.contains_nil, List.contains_cons, Bool.false_or, Bool.or_false, false_implies, implies_true, beq_self_eq_true, Nat.reduceBEq, Int.ofNat_le, Int.reduceToNat, Int.reduceLT, Int.reduceLE, Int.reduceEq, Nat.reduceLeDiff, Nat.reduceLT, Nat.reduceEqDiff, Nat.reduceMul, Nat.reduceAdd, Nat.reduceBEq, List.length_cons, List.length_nil, String.reduceEq]
  refine hQ .normal _ ?_; clear hQ Q
  have hza : (dec a).size ≤ 2 := by rw [← L_len]; exact (dg_of ha).1.len
  have hzb : (dec b).size ≤ 2 := by rw [← L_len]; exact (dg_of hb).1.len
  have hz1 : 21 + (dec a).size ≤ 9223372036854775807 := by omega
  have hz2 : 21 + (dec a).size + 15 ≤ 9223372036854775807 := by omega
  have hz3 : 21 + (dec a).size + 15 + (dec b).size ≤ 9223372036854775807 := by omega
  have hz4 : 21 + (dec a).size + 15 + (dec b).size + 18 ≤ 9223372036854775807 := by omega
  refine TS.of [] fun Q hQ => ?_
  simp only [go_sem, true_or, or_true, Int.cast_ofNat_Int, not_true_eq_false, true_implies, forall_const, not_false_eq_true, List.size_toArray, Array.size_empty, and_self, ne_eq, not_false_eq_true, Nat.reduceEqDiff, Nat.mul_one, List.contains_nil, List.contains_cons, Bool.false_or, Bool.or_false, false_implies, implies_true, beq_self_eq_true, Nat.reduceBEq, Int.ofNat_le, Int.reduceToNat, Int.reduceLT, Int.reduceLE, Int.reduceEq, Nat.reduceLeDiff, Nat.reduceLT, Nat.reduceEqDiff, Nat.reduceMul, Nat.reduceAdd, Nat.reduceBEq, List.length_cons, List.length_nil, String.reduceEq, haw, hbw, show ¬ ((66 : Int) = 0) by decide]
  refine cal_eq (dec_sim _ a (by omega)) ?_
  simp only [go_sem, true_or, or_true, Int.cast_ofNat_Int, not_true_eq_false, true_implies, forall_const, not_false_eq_true, List.size_toArray, Array.size_empty, and_self, ne_eq, not_false_eq_true, Nat.reduceEqDiff, Nat.mul_one, List.contains_nil, List.contains_cons, Bool.false_or, Bool.or_false, false_implies, implies_true, beq_self_eq_true, Nat.reduceBEq, Int.ofNat_le, Int.reduceToNat, Int.reduceLT, Int.reduceLE, Int.reduceEq, Nat.reduceLeDiff, Nat.reduceLT, Nat.reduceEqDiff, Nat.reduceMul, Nat.reduceAdd, Nat.reduceBEq, List.length_cons, List.length_nil, String.reduceEq, haw, hbw, ByteArray.size_append, hz1, hz2, hz3, hz4]
  refine cal_eq (dec_sim _ b (by omega)) ?_
  simp only [go_sem, true_or, or_true, Int.cast_ofNat_Int, not_true_eq_false, true_implies, forall_const, not_false_eq_true, List.size_toArray, Array.size_empty, and_self, ne_eq, not_false_eq_true, Nat.reduceEqDiff, Nat.mul_one, List.contains_nil, List.contains_cons, Bool.false_or, Bool.or_false, false_implies, implies_true, beq_self_eq_true, Nat.reduceBEq, Int.ofNat_le, Int.reduceToNat, Int.reduceLT, Int.reduceLE, Int.reduceEq, Nat.reduceLeDiff, Nat.reduceLT, Nat.reduceEqDiff, Nat.reduceMul, Nat.reduceAdd, Nat.reduceBEq, List.length_cons, List.length_nil, String.reduceEq, haw, hbw, ByteArray.size_append, hz1, hz2, hz3, hz4]
  refine cal_eq (checked_sim _ (stT (dec a) (dec b)) ?_ parse_ok) ?_
  · rw [show (stT (dec a) (dec b)).size = 21 + (dec a).size + 15 + (dec b).size + 18 from by simp only [stT, ByteArray.size_append]; rfl]; omega
  rw [hx]
  have hw1 : IntKind.i64.wrap ((b : Int) * 4) = b * 4 := wrap_small (by omega) (by omega)
  have hw2 : IntKind.i64.wrap (2 + (b : Int) * 4) = 2 + b * 4 := wrap_small (by omega) (by omega)
  have hm1 : (a : Int) * (2 + b * 4) ≤ 65 * (2 + 65 * 4) := Int.mul_le_mul (by omega) (by omega) (by omega) (by omega)
  have hm0 : 0 ≤ (a : Int) * (2 + b * 4) := Int.mul_nonneg (by omega) (by omega)
  have hw3 : IntKind.i64.wrap ((a : Int) * (2 + b * 4)) = a * (2 + b * 4) := wrap_small (by omega) (by omega)
  have hw4 : IntKind.i64.wrap (1 + (a : Int) * (2 + b * 4)) = 1 + a * (2 + b * 4) := wrap_small (by omega) (by omega)
  have hq9 : (9 : Int) < ((stq a + 3 : Nat) : Int) := by have : 21 ≤ stq a := by unfold stq; omega
                                                         omega
  by_cases g1 : (64 : Int) < a
  · have hF : stF a b (stq a) = (11, 9) := by rw [stF, if_pos g1]
    rw [hF]
    simp only [go_sem, true_or, or_true, Int.cast_ofNat_Int, not_true_eq_false, true_implies, forall_const, not_false_eq_true, List.size_toArray, Array.size_empty, and_self, ne_eq, not_false_eq_true, Nat.reduceEqDiff, Nat.mul_one, List.contains_nil, List.contains_cons, Bool.false_or, Bool.or_false, false_implies, implies_true, beq_self_eq_true, Nat.reduceBEq, Int.ofNat_le, Int.reduceToNat, Int.reduceLT, Int.reduceLE, Int.reduceEq, Nat.reduceLeDiff, Nat.reduceLT, Nat.reduceEqDiff, Nat.reduceMul, Nat.reduceAdd, Nat.reduceBEq, List.length_cons, List.length_nil, String.reduceEq, hw1, hw2, hw3, hw4, g1]
    refine hQ .ret _ ?_; clear hQ Q; refine post_ret _ _ (bb true) ?_ rfl (DropW.tail0 _ rfl) ⟨rfl, rfl⟩
    simp only [go_sem, true_or, or_true, Int.cast_ofNat_Int, not_true_eq_false, true_implies, forall_const, not_false_eq_true, List.size_toArray, Array.size_empty, and_self, ne_eq, not_false_eq_true, Nat.reduceEqDiff, Nat.mul_one, List.contains_nil, List.contains_cons, Bool.false_or, Bool.or_false, false_implies, implies_true, beq_self_eq_true, Nat.reduceBEq, Int.ofNat_le, Int.reduceToNat, Int.reduceLT, Int.reduceLE, Int.reduceEq, Nat.reduceLeDiff, Nat.reduceLT, Nat.reduceEqDiff, Nat.reduceMul, Nat.reduceAdd, Nat.reduceBEq, List.length_cons, List.length_nil, String.reduceEq]
  by_cases g2 : (64 : Int) < b
  · have hF : stF a b (stq a) = (11, ((stq a + 3 : Nat) : Int)) := by rw [stF, if_neg g1, if_pos g2]
    rw [hF]
    simp only [go_sem, true_or, or_true, Int.cast_ofNat_Int, not_true_eq_false, true_implies, forall_const, not_false_eq_true, List.size_toArray, Array.size_empty, and_self, ne_eq, not_false_eq_true, Nat.reduceEqDiff, Nat.mul_one, List.contains_nil, List.contains_cons, Bool.false_or, Bool.or_false, false_implies, implies_true, beq_self_eq_true, Nat.reduceBEq, Int.ofNat_le, Int.reduceToNat, Int.reduceLT, Int.reduceLE, Int.reduceEq, Nat.reduceLeDiff, Nat.reduceLT, Nat.reduceEqDiff, Nat.reduceMul, Nat.reduceAdd, Nat.reduceBEq, List.length_cons, List.length_nil, String.reduceEq, hw1, hw2, hw3, hw4, g1, g2, hq9]
    refine hQ .ret _ ?_; clear hQ Q; refine post_ret _ _ (bb true) ?_ rfl (DropW.tail0 _ rfl) ⟨rfl, rfl⟩
    simp only [go_sem, true_or, or_true, Int.cast_ofNat_Int, not_true_eq_false, true_implies, forall_const, not_false_eq_true, List.size_toArray, Array.size_empty, and_self, ne_eq, not_false_eq_true, Nat.reduceEqDiff, Nat.mul_one, List.contains_nil, List.contains_cons, Bool.false_or, Bool.or_false, false_implies, implies_true, beq_self_eq_true, Nat.reduceBEq, Int.ofNat_le, Int.reduceToNat, Int.reduceLT, Int.reduceLE, Int.reduceEq, Nat.reduceLeDiff, Nat.reduceLT, Nat.reduceEqDiff, Nat.reduceMul, Nat.reduceAdd, Nat.reduceBEq, List.length_cons, List.length_nil, String.reduceEq, hq9]
  by_cases g3 : (2048 : Int) < 1 + a * (2 + b * 4)
  · have hF : stF a b (stq a) = (11, 0) := by rw [stF, if_neg g1, if_neg g2, if_pos g3]
    rw [hF]
    simp only [go_sem, true_or, or_true, Int.cast_ofNat_Int, not_true_eq_false, true_implies, forall_const, not_false_eq_true, List.size_toArray, Array.size_empty, and_self, ne_eq, not_false_eq_true, Nat.reduceEqDiff, Nat.mul_one, List.contains_nil, List.contains_cons, Bool.false_or, Bool.or_false, false_implies, implies_true, beq_self_eq_true, Nat.reduceBEq, Int.ofNat_le, Int.reduceToNat, Int.reduceLT, Int.reduceLE, Int.reduceEq, Nat.reduceLeDiff, Nat.reduceLT, Nat.reduceEqDiff, Nat.reduceMul, Nat.reduceAdd, Nat.reduceBEq, List.length_cons, List.length_nil, String.reduceEq, hw1, hw2, hw3, hw4, g1, g2, g3]
    refine hQ .ret _ ?_; clear hQ Q; refine post_ret _ _ (bb true) ?_ rfl (DropW.tail0 _ rfl) ⟨rfl, rfl⟩
    simp only [go_sem, true_or, or_true, Int.cast_ofNat_Int, not_true_eq_false, true_implies, forall_const, not_false_eq_true, List.size_toArray, Array.size_empty, and_self, ne_eq, not_false_eq_true, Nat.reduceEqDiff, Nat.mul_one, List.contains_nil, List.contains_cons, Bool.false_or, Bool.or_false, false_implies, implies_true, beq_self_eq_true, Nat.reduceBEq, Int.ofNat_le, Int.reduceToNat, Int.reduceLT, Int.reduceLE, Int.reduceEq, Nat.reduceLeDiff, Nat.reduceLT, Nat.reduceEqDiff, Nat.reduceMul, Nat.reduceAdd, Nat.reduceBEq, List.length_cons, List.length_nil, String.reduceEq]
  have hF : stF a b (stq a) = (0, 0) := by rw [stF, if_neg g1, if_neg g2, if_neg g3]
  obtain ⟨e1, e2, e3, e4⟩ := hok hF
  rw [hF]
  simp only [go_sem, true_or, or_true, Int.cast_ofNat_Int, not_true_eq_false, true_implies, forall_const, not_false_eq_true, List.size_toArray, Array.size_empty, and_self, ne_eq, not_false_eq_true, Nat.reduceEqDiff, Nat.mul_one, List.contains_nil, List.contains_cons, Bool.false_or, Bool.or_false, false_implies, implies_true, beq_self_eq_true, Nat.reduceBEq, Int.ofNat_le, Int.reduceToNat, Int.reduceLT, Int.reduceLE, Int.reduceEq, Nat.reduceLeDiff, Nat.reduceLT, Nat.reduceEqDiff, Nat.reduceMul, Nat.reduceAdd, Nat.reduceBEq, List.length_cons, List.length_nil, String.reduceEq, hw1, hw2, hw3, hw4, g1, g2, g3, e1, e2, e3, e4]
  refine hQ .ret _ ?_; clear hQ Q; refine post_ret _ _ (bb true) ?_ rfl (DropW.tail0 _ rfl) ⟨rfl, rfl⟩
  simp only [go_sem, true_or, or_true, Int.cast_ofNat_Int, not_true_eq_false, true_implies, forall_const, not_false_eq_true, List.size_toArray, Array.size_empty, and_self, ne_eq, not_false_eq_true, Nat.reduceEqDiff, Nat.mul_one, List.contains_nil, List.contains_cons, Bool.false_or, Bool.or_false, false_implies, implies_true, beq_self_eq_true, Nat.reduceBEq, Int.ofNat_le, Int.reduceToNat, Int.reduceLT, Int.reduceLE, Int.reduceEq, Nat.reduceLeDiff, Nat.reduceLT, Nat.reduceEqDiff, Nat.reduceMul, Nat.reduceAdd, Nat.reduceBEq, List.length_cons, List.length_nil, String.reduceEq, e1, e2, e3, e4]
end Go.Proofs.Ytphjldhdnmoolaa.A
/- For every input CheckSteps answers true: loops within loops are counted. -/
namespace Go.Proofs.Ytphjldhdnmoolaa.checkSteps
open Go Go.ChangeShapes Go.WideShapes Go.ChangeAt Go.RowKit Go.Joins Go.Proofs.Ytphjldhdnmoolaa.A
set_option maxRecDepth 100000 in
theorem lifted (os : Os) (started : os.Started) (H : Type) (enc : TypeId × Value → H) :
    ReturnsInHanded {} Try.checked os 8 .any (Rows.checkStepsSpec.pre6 enc Try.prog Try.f8 Rows.checkStepsRow.domain false) (Rows.checkStepsSpec.post enc Try.prog Try.f8 false true false false) := by
  refine returnsInHanded_of_change_sized (C := Try.checked) own started (by kernel_rfl) Try.func8
    (ChangeSpec.witness6 (enc := enc) (C := Try.checked) false ⟨#[], #[.int .i64 0, .int .i64 0], []⟩ 8 (by kernel_rfl) (by kernel_rfl) (by kernel_rfl) (by kernel_rfl)) ?_
  intro W base args ds gs before hval0 hW hcnd hsz0 _
  have hsz : (DataW.weightsEach Try.prog (Try.f8.params.toList ++ Rows.checkStepsSpec.plain.varTypes Try.prog) (ds ++ gs)).all (· ≤ reachBytes) = true := hsz0
  have hval : ∀ (j : Nat) t v, Try.f8.params[j]? = some t → args[j]? = some v → Value.okWide Try.prog W .any base t v := hval0
  have hW' := hW
  obtain ⟨p, q, hA0, hV, rfl, hfz, hnd⟩ := hW
  have hA : DataW.TrodAll enc Try.prog W 0 (fun _ => true) true Try.f8.params.toList args.toList ds p := hA0
  rw [Try.params8] at hA hval hsz
  obtain ⟨v0, vs0, d0, ds0, p0, q0, hargs, rfl, rfl, h0, r0⟩ := trodAll_cons hA
  obtain ⟨v1, vs1, d1, ds1, p1, q1, rfl, rfl, rfl, h1, r1⟩ := trodAll_cons r0
  obtain ⟨rfl, rfl, rfl⟩ := trodAll_nil r1
  obtain rfl : args = #[v0, v1] := by cases args; simp_all
  obtain ⟨rfl, rfl⟩ := trodVars_none hV
  obtain ⟨a0, rfl, rfl, rfl, w0⟩ := open_int Try.underlying3 (hval 0 3 v0 rfl rfl) h0
  obtain ⟨a1, rfl, rfl, rfl, w1⟩ := open_int Try.underlying3 (hval 1 3 v1 rfl rfl) h1
  clear hA0 hval0 hsz0
  refine (calls_of_sim (steps_law _ _ _) (relL_cons (rel_v _ _ _) (relL_cons (rel_v _ _ _) (relL_nil _ _)))).mono fun e W' ⟨he, bel⟩ => ?_
  subst he
  exact ⟨_, rfl, _, _, _, [], _, [], hW', trodAll_mk1 (shut_bool Try.underlying4 _), (trodAll_cons_mk (shut_int Try.underlying3 w0) (trodAll_cons_mk (shut_int Try.underlying3 w1) trodAll_mk0)), rfl, bel.frame _, fun h => by cases h⟩
set_option maxRecDepth 100000
theorem rec1 : Try.prog.recurses 8 = true := fact_recurses 8 90 (by kernel_rfl) (by kernel_rfl) (by kernel_rfl)
theorem q0 : (Rows.checkStepsRow.wf (OpenSpec.ofChange Rows.checkStepsSpec)) = true := by kernel_rfl
theorem q3 : (Try.f8.params.all (Try.prog.readableRec ·)) = true := by kernel_rfl
theorem q4 : (namedTie Try.prog Rows.checkStepsRow.named Rows.checkStepsSpec.vars) = true := by kernel_rfl
theorem q5 : (Rows.checkStepsRow.stops == []) = true := by kernel_rfl
theorem q7 : (Rows.checkStepsRow.knobs == []) = true := by kernel_rfl
theorem q9 : (Rows.checkStepsRow.inPlace == Try.prog.inPlace 8) = true := by kernel_rfl
theorem q10 : (Rows.checkStepsRow.unfollowed == Try.prog.unfollowed 8) = true := by kernel_rfl
theorem q11 : (Rows.checkStepsRow.recurses == Try.prog.recurses 8) = true := by rw [rec1]; kernel_rfl
theorem q12 : (Rows.checkStepsRow.named == Try.prog.varsNamed 8) = true := by kernel_rfl
theorem q13 : (Rows.checkStepsRow.maps == (Try.f8.params.toList ++ Rows.checkStepsSpec.plain.varTypes Try.prog).any (Try.prog.mapsRec ·)) = true := by kernel_rfl
theorem q14 : (Rows.checkStepsRow.ifaces == (Try.f8.params.toList ++ Rows.checkStepsSpec.plain.varTypes Try.prog).any (Try.prog.ifacesRec ·)) = true := by kernel_rfl
theorem q15 : (Rows.checkStepsRow.mapsOut == Try.prog.mapsAmong Try.f8.resultTypes.toList) = true := by kernel_rfl
theorem q16 : (Rows.checkStepsRow.loops == (Try.f8.params.toList ++ Rows.checkStepsSpec.plain.varTypes Try.prog).any (Try.prog.loopsFrom ·)) = true := by kernel_rfl
theorem q17 : (Rows.checkStepsRow.wideKeys == (Try.f8.params.toList ++ Rows.checkStepsSpec.plain.varTypes Try.prog ++ Try.f8.resultTypes.toList).any (Try.prog.wideKeysFrom ·)) = true := by kernel_rfl
theorem q18 : (Rows.checkStepsSpec.vars.all (Try.prog.varReadable ·)) = true := by kernel_rfl
theorem q19 : (Try.f8.resultTypes.all (fun t => Try.prog.readableRec t && decide (t < Try.prog.types.size))) = true := by kernel_rfl
theorem q20 : (Rows.checkStepsRow.ifacesOut == Try.f8.resultTypes.toList.any (Try.prog.ifacesRec ·)) = true := by kernel_rfl
theorem q21 : (Rows.checkStepsRow.loopsOut == Try.f8.resultTypes.toList.any (Try.prog.loopsFrom ·)) = true := by kernel_rfl
theorem q23 : (Rows.checkStepsRow.shortTexts.isNone) = true := by kernel_rfl
theorem q28 : (Rows.checkStepsRow.kinds == (if Rows.checkStepsRow.domain.isEmpty then [] else Try.f8.params.toList.map fun t => match Try.prog.underlying t with | some (.int k) => some k | _ => none)) = true := by kernel_rfl
theorem q29 : (Rows.checkStepsRow.pinned == Rows.checkStepsRow.pinnedBy) = true := by kernel_rfl
theorem q30 : (Rows.checkStepsRow.veiled == (Try.f8.params.toList ++ Rows.checkStepsSpec.plain.varTypes Try.prog ++ Try.f8.resultTypes.toList).any (Try.prog.veiledRec ·)) = true := by kernel_rfl
theorem q31 : (Rows.checkStepsRow.veiledFits Try.prog Try.f8.params.toList (Try.f8.params.toList ++ Rows.checkStepsSpec.plain.varTypes Try.prog ++ Try.f8.resultTypes.toList)) = true := by kernel_rfl
theorem joined : joinedFacts Try.prog 8 Try.f8 Rows.checkStepsSpec Rows.checkStepsRow = true := (and2 (and2 (and2 (and2 (and2 (and2 (and2 (and2 (and2 (and2 (and2 (and2 (and2 (and2 (and2 (and2 (and2 (and2 (and2 (and2 (and2 (and2 (and2 (and2 (and2 (and2 (and2 (and2 (and2 (and2 (and2 q0 fact_laid) fact_maps) q3) q4) q5) fact_stops) q7) fact_knobs) q9) q10) q11) q12) q13) q14) q15) q16) q17) q18) q19) q20) q21) fact_keys) q23) fact_heard) fact_enter) fact_lifted) fact_make) q28) q29) q30) q31)
theorem over : Rows.checkStepsRow.holds Try.pinned (OpenSpec.ofChange Rows.checkStepsSpec) :=
  OpenClaim.holds_of_wide 8 Try.f8 rfl rfl rfl rfl rfl rfl rfl ⟨rfl, rfl, rfl, rfl, rfl⟩ rfl rfl rfl rfl rfl (by kernel_rfl) Try.func8 joined
    (of_decide_eq_true (by kernel_rfl)) (by unfold Func.isWrapper; first | (rw [if_pos (by decide +kernel)]; kernel_rfl) | (rw [if_neg (by decide +kernel)]; exact ⟨rfl, rfl⟩))
    (fun os started H enc _ => lifted os started H enc)
theorem proved : Rows.CheckStepsSaid := over
#print axioms proved
end Go.Proofs.Ytphjldhdnmoolaa.checkSteps
namespace Go.Proofs.Ytphjldhdnmoolaa
/-- The row, under a short name, for the claim. -/
theorem checkSteps_holds : Rows.CheckStepsSaid := checkSteps.proved
end Go.Proofs.Ytphjldhdnmoolaa
