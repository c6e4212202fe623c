/- Joined: B24, B25, B26, B27, C0 -/
import Derived.Test.YtphjldhdnmoolaaJCheckCalls3
import Derived.Below
import Derived.ProofKit
import Derived.OpenShut
import Derived.ShutString
import Derived.ChangeOld
import Derived.ChangeMaps5
import Derived.SizedLaws
import Derived.Lib.SmallJoins
import Derived.RowKit
set_option linter.unusedVariables false
set_option linter.unusedSimpArgs false
/- The walks of some functions over the abstract machine. -/
namespace Go.Proofs.Ytphjldhdnmoolaa.A
open Go
/-! numbers of texts -/
def numQ (t : Tok) : Prop := t.k = 2 → allB t.s digits = true ∧ numOK t.s = true
theorem kindT_num {t : Bytes} {b : Bool} (h : kindT t b = 2) : allB t digits = true ∧ numOK t = true := by
  unfold kindT at h
  split at h
  · cases h
  · split at h
    · rename_i hc; simp only [Bool.and_eq_true] at hc; exact hc.2
    · split at h <;> cases h
theorem toksF_num (s : Bytes) : ∀ (f p : Nat) (acc : List Tok), (∀ t ∈ acc, numQ t) → ∀ t ∈ (toksF s f p acc).1, numQ t
  | 0, p, acc, h, t, ht => by simp [toksF] at ht
  | f + 1, p, acc, h, t, ht => by
    unfold toksF at ht
    split at ht
    · rcases List.mem_append.1 ht with ht | ht
      · exact h t ht
      · simp at ht; subst ht; intro hk; cases hk
    · split at ht
      · exact toksF_num s f _ acc h t ht
      · split at ht
        · exact toksF_num s f _ acc h t ht
        · split at ht
          · simp at ht
          · refine toksF_num s f _ _ ?_ t ht
            intro t ht
            rcases List.mem_append.1 ht with ht | ht
            · exact h t ht
            · simp at ht; subst ht; exact fun hk => kindT_num hk
def dv (n : Nat) (b : UInt8) : Nat := 10 * n + (b.toNat - 48)
def isD (b : UInt8) : Bool := decide (48 ≤ b.toNat) && decide (b.toNat ≤ 57)
theorem hasB_digit {b : UInt8} (h : hasB digits b.toNat = true) : 48 ≤ b.toNat ∧ b.toNat ≤ 57 := by
  unfold hasB at h
  have hL : L digits = [48, 49, 50, 51, 52, 53, 54, 55, 56, 57] := rfl
  rw [hL] at h
  simp at h
  omega
theorem dv_lt : ∀ (l : List UInt8) (n : Nat), (∀ b ∈ l, 48 ≤ b.toNat ∧ b.toNat ≤ 57) → l.foldl dv n < (n + 1) * 10 ^ l.length
  | [], n, _ => by simp
  | b :: l, n, h => by
    have h1 := dv_lt l (dv n b) (fun x hx => h x (List.mem_cons_of_mem _ hx))
    have h2 := h b (List.mem_cons_self ..)
    simp only [List.foldl_cons, List.length_cons]
    refine Nat.lt_of_lt_of_le h1 ?_
    rw [Nat.pow_succ, Nat.mul_comm (10 ^ l.length) 10, ← Nat.mul_assoc]
    apply Nat.mul_le_mul_right
    unfold dv; omega
theorem dv_ge : ∀ (l : List UInt8) (n : Nat), n * 10 ^ l.length ≤ l.foldl dv n
  | [], n => by simp
  | b :: l, n => by
    have h1 := dv_ge l (dv n b)
    simp only [List.foldl_cons, List.length_cons]
    refine Nat.le_trans ?_ h1
    rw [Nat.pow_succ, Nat.mul_comm (10 ^ l.length) 10, ← Nat.mul_assoc]
    apply Nat.mul_le_mul_right
    unfold dv; omega
/-- As long as the whole is small, nothing wraps. -/
theorem numV_eq : ∀ (l : List UInt8) (n : Nat), (∀ b ∈ l, 48 ≤ b.toNat ∧ b.toNat ≤ 57) → l.foldl dv n < 9223372036854775808 → l.foldl digV (n : Int) = ((l.foldl dv n : Nat) : Int)
  | [], n, _, _ => rfl
  | b :: l, n, h, hs => by
    have h2 := h b (List.mem_cons_self ..)
    simp only [List.foldl_cons] at hs ⊢
    have h3 := dv_ge l (dv n b)
    have h4 : dv n b < 9223372036854775808 := by
      have : 1 ≤ 10 ^ l.length := Nat.one_le_pow _ _ (by decide)
      have := Nat.mul_le_mul_left (dv n b) this
      omega
    have e : digV n b = ((dv n b : Nat) : Int) := by
      unfold digV dv at *
      simp only [IntKind.wrap, IntKind.bits, IntKind.signed]
      simp
      omega
    rw [e]
    exact numV_eq l (dv n b) (fun x hx => h x (List.mem_cons_of_mem _ hx)) hs
theorem dv_lex : ∀ (a b : List UInt8) (n : Nat), a.length = b.length → (∀ x ∈ a, 48 ≤ x.toNat ∧ x.toNat ≤ 57) → (∀ x ∈ b, 48 ≤ x.toNat ∧ x.toNat ≤ 57) → Op.bytesLess a b = true → a.foldl dv n < b.foldl dv n
  | [], [], n, _, _, _, h => by cases h
  | x :: a, y :: b, n, hl, ha, hb, h => by
    have hx := ha x (List.mem_cons_self ..)
    have hy := hb y (List.mem_cons_self ..)
    have hl' : a.length = b.length := by simpa using hl
    simp only [Op.bytesLess, Bool.or_eq_true, decide_eq_true_eq, Bool.and_eq_true, beq_iff_eq] at h
    simp only [List.foldl_cons]
    rcases h with h | ⟨h, h'⟩
    · have h0 : x.toNat < y.toNat := UInt8.lt_iff_toNat_lt.1 h
      have h1 := dv_lt a (dv n x) (fun z hz => ha z (List.mem_cons_of_mem _ hz))
      have h2 := dv_ge b (dv n y)
      have h3 : dv n x + 1 ≤ dv n y := by unfold dv; omega
      have h4 := Nat.mul_le_mul_right (10 ^ a.length) h3
      rw [hl'] at h1 h4
      omega
    · subst h
      exact dv_lex a b _ hl' (fun z hz => ha z (List.mem_cons_of_mem _ hz)) (fun z hz => hb z (List.mem_cons_of_mem _ hz)) h'
theorem numV_nat {s : Bytes} (h1 : allB s digits = true) (h2 : numOK s = true) : numV s = (((L s).foldl dv 0 : Nat) : Int) ∧ (L s).foldl dv 0 < 9223372036854775808 := by
  have hd : ∀ b ∈ L s, 48 ≤ b.toNat ∧ b.toNat ≤ 57 := by
    intro b hb
    unfold allB at h1
    exact hasB_digit (List.all_eq_true.1 h1 b hb)
  have hlt : (L s).foldl dv 0 < 9223372036854775808 := by
    have hb := dv_lt (L s) 0 hd
    unfold numOK at h2
    simp only [Bool.and_eq_true, Bool.or_eq_true, Bool.not_eq_true', Bool.or_eq_false_iff, decide_eq_true_eq, decide_eq_false_iff_not] at h2
    obtain ⟨⟨_, h3⟩, h4⟩ := h2
    have hlen := L_len s
    rcases h4 with h4 | h4 | h4
    · have : 10 ^ (L s).length ≤ 10 ^ 18 := Nat.pow_le_pow_right (by decide) (by omega)
      omega
    · have e1 : s.toList = L s := toList_eq s
      have e2 : maxNum.toList = L maxNum := toList_eq _
      have hm : (L maxNum).foldl dv 0 = 9223372036854775807 := by decide
      by_cases h19 : s.size = 19
      · have := dv_lex (L s) (L maxNum) 0 (by rw [hlen, h19]; rfl) hd (by decide) (by rw [← e1, ← e2]; exact h4)
        omega
      · have : 10 ^ (L s).length ≤ 10 ^ 18 := Nat.pow_le_pow_right (by decide) (by omega)
        omega
    · have hm : (L maxNum).foldl dv 0 = 9223372036854775807 := by decide
      rw [h4]; omega
  exact ⟨numV_eq (L s) 0 hd hlt, hlt⟩
theorem parse_ok {s : Bytes} (h : (parse s).2.1 = 0) : DefOK (parse s).1 := by
  unfold parse at h ⊢
  dsimp only at h ⊢
  split at h
  · rename_i hc; exact absurd h hc
  · rename_i hc
    rw [if_neg hc]
    have hc' : (tokens s).2.1 = 0 := by simpa using hc
    split at h
    · cases h
    · rename_i hp
      rw [if_neg hp]
      obtain ⟨l0, e1, e2, e3, e4⟩ := tokens_ok hc'
      have hnum : numsOK (tokens s).1 := by
        intro p hk
        have hq : numQ (tk (tokens s).1 p) := by
          unfold tk
          rw [List.getD_eq_getElem?_getD]
          cases hg : (tokens s).1[p.toNat]? with
          | none => intro hk; cases hk
          | some x =>
            have hm := List.mem_of_getElem? hg
            simp only [Option.getD_some]
            unfold tokens at hm
            split at hm
            · simp at hm
            · exact toksF_num s _ _ _ (by simp) x hm
        obtain ⟨q1, q2⟩ := hq hk
        rw [(numV_nat q1 q2).1]
        omega
      have hT : Toks (tokens s).1 := by rw [e1]; exact Toks.of rfl e2 e4.kind
      have hpos : 0 ≤ (defP (tokens s).1).2 := by
        have h0 : fixP (tokens s).1 (defP (tokens s).1).2 = (defP (tokens s).1).2 ∨ fixP (tokens s).1 (defP (tokens s).1).2 = bad (defP (tokens s).1).2 := by unfold fixP; split <;> simp
        rcases h0 with h0 | h0
        · rw [h0] at hp; omega
        · exfalso
          apply hp
          by_cases hn : 0 ≤ (defP (tokens s).1).2
          · rw [h0]; unfold bad; omega
          · have : fixP (tokens s).1 (defP (tokens s).1).2 = (defP (tokens s).1).2 := by unfold fixP; simp [hn]
            rw [this]; omega
      have hk := defP_took hnum hpos
      have hok := (defP_ok hT).2
      have hlen : (tokens s).1.length ≤ 481 := by rw [e1]; simp; omega
      exact ⟨by dsimp only; omega, by dsimp only; omega, hk.2⟩
end Go.Proofs.Ytphjldhdnmoolaa.A
/- The walks of some functions over the abstract machine. -/
namespace Go.Proofs.Ytphjldhdnmoolaa.A
open Go
def w1 : Bytes := ⟨#[111, 112, 32, 111, 40, 41, 32, 123, 32, 91, 120, 93, 32, 61, 32, 49, 59, 32, 125]⟩
def w2 : Bytes := ⟨#[111, 112, 32, 103, 101, 116, 40, 105, 41, 32, 123, 32, 103, 105, 118, 101, 32, 91, 105, 93, 59, 32, 125]⟩
def w3 : Bytes := ⟨#[111, 112, 32, 97, 100, 100, 40, 105, 44, 32, 118, 41, 32, 123, 32, 110, 101, 101, 100, 32, 105, 32, 60, 32, 54, 48, 59, 32, 91, 105, 93, 32, 43, 61, 32, 118, 59, 32, 125]⟩
set_option maxRecDepth 100000 in
theorem w1_ok : checkedP w1 = (Info0, 9, 10, true) := by kernel_rfl
set_option maxRecDepth 100000 in
theorem w2_ok : (checkedP w2).1.mode = 1 ∧ (checkedP w2).2.1 = 0 := by constructor <;> kernel_rfl
set_option maxRecDepth 100000 in
theorem w3_ok : (checkedP w3).1.mode = 2 ∧ (checkedP w3).1.turns = true ∧ (checkedP w3).1.names = 2 ∧ (checkedP w3).2.1 = 0 ∧ (checkedP w3).2.2.2 = true := by refine ⟨?_, ?_, ?_, ?_, ?_⟩ <;> kernel_rfl
set_option maxRecDepth 100000 in
set_option maxHeartbeats 4000000 in
theorem alive8_sim (m : Mem) : Sim 21 [] m (fun r m' => r = bb true ∧ m' = m) := by
  refine Sim.ofS 67 [.tmp 0] Try.func21 rfl rfl rfl (by simp) fun wr => ?_
  simp only [go_sem, true_or, or_true, Int.cast_ofNat_Int, not_true_eq_false, true_implies, forall_const, not_false_eq_true, List.size_toArray, Array.size_empty, and_self, ne_eq, not_false_eq_true, Nat.reduceEqDiff, Nat.mul_one, List.contains_nil, List.contains_cons, Bool.false_or, Bool.or_false, false_implies, implies_true, beq_self_eq_true, Nat.reduceBEq, Int.ofNat_le, Int.reduceToNat, Int.reduceLT, Int.reduceLE, Int.reduceEq, Nat.reduceLeDiff, Nat.reduceLT, Nat.reduceEqDiff, Nat.reduceMul, Nat.reduceAdd, Nat.reduceBEq, List.length_cons, List.length_nil, String.reduceEq]
  have h1 := fun m => checked_sim m w1 (by decide) parse_ok
  have h2 := fun m => checked_sim m w2 (by decide) parse_ok
  have h3 := fun m => checked_sim m w3 (by decide) parse_ok
  rw [w1_ok] at h1
  obtain ⟨q1, q2⟩ := w2_ok
  obtain ⟨r1, r2, r3, r4, r5⟩ := w3_ok
  generalize checkedP w2 = X at h2 q1 q2
  generalize checkedP w3 = Y at h3 r1 r2 r3 r4 r5
  refine TS.of [] fun Q hQ => ?_
  simp only [go_sem, true_or, or_true, Int.cast_ofNat_Int, not_true_eq_false, true_implies, forall_const, not_false_eq_true, List.size_toArray, Array.size_empty, and_self, ne_eq, not_false_eq_true, Nat.reduceEqDiff, Nat.mul_one, List.contains_nil, List.contains_cons, Bool.false_or, Bool.or_false, false_implies, implies_true, beq_self_eq_true, Nat.reduceBEq, Int.ofNat_le, Int.reduceToNat, Int.reduceLT, Int.reduceLE, Int.reduceEq, Nat.reduceLeDiff, Nat.reduceLT, Nat.reduceEqDiff, Nat.reduceMul, Nat.reduceAdd, Nat.reduceBEq, List.length_cons, List.length_nil, String.reduceEq]
  refine cal_eq (h3 _) ?_
  simp only [go_sem, true_or, or_true, Int.cast_ofNat_Int, not_true_eq_false, true_implies, forall_const, not_false_eq_true, List.size_toArray, Array.size_empty, and_self, ne_eq, not_false_eq_true, Nat.reduceEqDiff, Nat.mul_one, List.contains_nil, List.contains_cons, Bool.false_or, Bool.or_false, false_implies, implies_true, beq_self_eq_true, Nat.reduceBEq, Int.ofNat_le, Int.reduceToNat, Int.reduceLT, Int.reduceLE, Int.reduceEq, Nat.reduceLeDiff, Nat.reduceLT, Nat.reduceEqDiff, Nat.reduceMul, Nat.reduceAdd, Nat.reduceBEq, List.length_cons, List.length_nil, String.reduceEq]
  refine cal_eq (h2 _) ?_
  simp only [go_sem, true_or, or_true, Int.cast_ofNat_Int, not_true_eq_false, true_implies, forall_const, not_false_eq_true, List.size_toArray, Array.size_empty, and_self, ne_eq, not_false_eq_true, Nat.reduceEqDiff, Nat.mul_one, List.contains_nil, List.contains_cons, Bool.false_or, Bool.or_false, false_implies, implies_true, beq_self_eq_true, Nat.reduceBEq, Int.ofNat_le, Int.reduceToNat, Int.reduceLT, Int.reduceLE, Int.reduceEq, Nat.reduceLeDiff, Nat.reduceLT, Nat.reduceEqDiff, Nat.reduceMul, Nat.reduceAdd, Nat.reduceBEq, List.length_cons, List.length_nil, String.reduceEq]
  refine cal_eq (h1 _) ?_
  simp only [go_sem, true_or, or_true, Int.cast_ofNat_Int, not_true_eq_false, true_implies, forall_const, not_false_eq_true, List.size_toArray, Array.size_empty, and_self, ne_eq, not_false_eq_true, Nat.reduceEqDiff, Nat.mul_one, List.contains_nil, List.contains_cons, Bool.false_or, Bool.or_false, false_implies, implies_true, beq_self_eq_true, Nat.reduceBEq, Int.ofNat_le, Int.reduceToNat, Int.reduceLT, Int.reduceLE, Int.reduceEq, Nat.reduceLeDiff, Nat.reduceLT, Nat.reduceEqDiff, Nat.reduceMul, Nat.reduceAdd, Nat.reduceBEq, List.length_cons, List.length_nil, String.reduceEq, q1, q2, r1, r2, r3, r4, r5]
  refine hQ .ret _ ?_; clear hQ Q; refine post_ret _ _ (bb true) ?_ rfl (DropW.tail0 _ rfl) ⟨rfl, rfl⟩
  simp only [go_sem, true_or, or_true, Int.cast_ofNat_Int, not_true_eq_false, true_implies, forall_const, not_false_eq_true, List.size_toArray, Array.size_empty, and_self, ne_eq, not_false_eq_true, Nat.reduceEqDiff, Nat.mul_one, List.contains_nil, List.contains_cons, Bool.false_or, Bool.or_false, false_implies, implies_true, beq_self_eq_true, Nat.reduceBEq, Int.ofNat_le, Int.reduceToNat, Int.reduceLT, Int.reduceLE, Int.reduceEq, Nat.reduceLeDiff, Nat.reduceLT, Nat.reduceEqDiff, Nat.reduceMul, Nat.reduceAdd, Nat.reduceBEq, List.length_cons, List.length_nil, String.reduceEq]
end Go.Proofs.Ytphjldhdnmoolaa.A
/- The walks of some functions over the abstract machine. -/
namespace Go.Proofs.Ytphjldhdnmoolaa.A
open Go
/-! decimal numbers -/
def digit (n : Nat) : Bytes := ByteArray.empty.push (UInt8.ofNat (48 + n % 10))
def decL : Nat → Nat → Bytes → Bytes
  | 0, _, s => s
  | f + 1, n, s => if s = ByteArray.empty ∨ 0 < n then decL f (n / 10) (digit n ++ s) else s
def dec (n : Nat) : Bytes := decL 30 n ByteArray.empty
set_option maxRecDepth 100000 in
set_option maxHeartbeats 4000000 in
theorem dec_sim (m : Mem) (n : Nat) (hn : n < 1000000) : Sim 37 [ii n] m (fun r m' => r = ss (dec n) ∧ m' = m) := by
  refine Sim.ofS 32 [.tmp 2] Try.func37 rfl rfl rfl (by simp) fun wr => ?_
  simp only [go_sem, true_or, or_true, Int.cast_ofNat_Int, not_true_eq_false, true_implies, forall_const, not_false_eq_true, List.size_toArray, Array.size_empty, and_self, ne_eq, not_false_eq_true, Nat.reduceEqDiff, Nat.mul_one, List.contains_nil, List.contains_cons, Bool.false_or, Bool.or_false, false_implies, implies_true, beq_self_eq_true, Nat.reduceBEq, Int.ofNat_le, Int.reduceToNat, Int.reduceLT, Int.reduceLE, Int.reduceEq, Nat.reduceLeDiff, Nat.reduceLT, Nat.reduceEqDiff, Nat.reduceMul, Nat.reduceAdd, Nat.reduceBEq, List.length_cons, List.length_nil, String.reduceEq]
  refine TS.seq (TS.of [] fun Q hQ => ?_)
  simp only [go_sem, true_or, or_true, Int.cast_ofNat_Int, not_true_eq_false, true_implies, forall_const, not_false_eq_true, List.size_toArray, Array.size_empty, and_self, ne_eq, not_false_eq_true, Nat.reduceEqDiff, Nat.mul_one, List.contains_nil, List.contains_cons, Bool.false_or, Bool.or_false, false_implies, implies_true, beq_self_eq_true, Nat.reduceBEq, Int.ofNat_le, Int.reduceToNat, Int.reduceLT, Int.reduceLE, Int.reduceEq, Nat.reduceLeDiff, Nat.reduceLT, Nat.reduceEqDiff, Nat.reduceMul, Nat.reduceAdd, Nat.reduceBEq, List.length_cons, List.length_nil, String.reduceEq]
  refine hQ .normal _ ?_; clear hQ Q
  have e1 : ¬ ((n : Int) = -9223372036854775808) := by omega
  have e2 : ¬ ((n : Int) < 0) := by omega
  refine TS.seq (TS.of [] fun Q hQ => ?_)
  simp only [go_sem, true_or, or_true, Int.cast_ofNat_Int, not_true_eq_false, true_implies, forall_const, not_false_eq_true, List.size_toArray, Array.size_empty, and_self, ne_eq, not_false_eq_true, Nat.reduceEqDiff, Nat.mul_one, List.contains_nil, List.contains_cons, Bool.false_or, Bool.or_false, false_implies, implies_true, beq_self_eq_true, Nat.reduceBEq, Int.ofNat_le, Int.reduceToNat, Int.reduceLT, Int.reduceLE, Int.reduceEq, Nat.reduceLeDiff, Nat.reduceLT, Nat.reduceEqDiff, Nat.reduceMul, Nat.reduceAdd, Nat.reduceBEq, List.length_cons, List.length_nil, String.reduceEq, e1]
  refine hQ .normal _ ?_; clear hQ Q
  refine TS.seq (TS.of [] fun Q hQ => ?_)
  simp only [go_sem, true_or, or_true, Int.cast_ofNat_Int, not_true_eq_false, true_implies, forall_const, not_false_eq_true, List.size_toArray, Array.size_empty, and_self, ne_eq, not_false_eq_true, Nat.reduceEqDiff, Nat.mul_one, List.contains_nil, List.contains_cons, Bool.false_or, Bool.or_false, false_implies, implies_true, beq_self_eq_true, Nat.reduceBEq, Int.ofNat_le, Int.reduceToNat, Int.reduceLT, Int.reduceLE, Int.reduceEq, Nat.reduceLeDiff, Nat.reduceLT, Nat.reduceEqDiff, Nat.reduceMul, Nat.reduceAdd, Nat.reduceBEq, List.length_cons, List.length_nil, String.reduceEq]
  refine hQ .normal _ ?_; clear hQ Q
  refine TS.seq (TS.of [] fun Q hQ => ?_)
  simp only [go_sem, true_or, or_true, Int.cast_ofNat_Int, not_true_eq_false, true_implies, forall_const, not_false_eq_true, List.size_toArray, Array.size_empty, and_self, ne_eq, not_false_eq_true, Nat.reduceEqDiff, Nat.mul_one, List.contains_nil, List.contains_cons, Bool.false_or, Bool.or_false, false_implies, implies_true, beq_self_eq_true, Nat.reduceBEq, Int.ofNat_le, Int.reduceToNat, Int.reduceLT, Int.reduceLE, Int.reduceEq, Nat.reduceLeDiff, Nat.reduceLT, Nat.reduceEqDiff, Nat.reduceMul, Nat.reduceAdd, Nat.reduceBEq, List.length_cons, List.length_nil, String.reduceEq, e2]
  refine hQ .normal _ ?_; clear hQ Q
  refine TS.seq (TS.of [] fun Q hQ => ?_)
  simp only [go_sem, true_or, or_true, Int.cast_ofNat_Int, not_true_eq_false, true_implies, forall_const, not_false_eq_true, List.size_toArray, Array.size_empty, and_self, ne_eq, not_false_eq_true, Nat.reduceEqDiff, Nat.mul_one, List.contains_nil, List.contains_cons, Bool.false_or, Bool.or_false, false_implies, implies_true, beq_self_eq_true, Nat.reduceBEq, Int.ofNat_le, Int.reduceToNat, Int.reduceLT, Int.reduceLE, Int.reduceEq, Nat.reduceLeDiff, Nat.reduceLT, Nat.reduceEqDiff, Nat.reduceMul, Nat.reduceAdd, Nat.reduceBEq, List.length_cons, List.length_nil, String.reduceEq]
  refine hQ .normal _ ?_; clear hQ Q
  refine TS.seq (TS.block (TS.loop (α := Nat × Nat × Bytes) (fun x => [(0, ii x.2.1), (3, ss x.2.2), (4, bb false)]) (fun _ => m) (fun x => x.2.1 < 1000000 ∧ x.2.1 < 10 ^ (x.1 - 20) ∧ (x.2.2 = ByteArray.empty → x.1 = 30) ∧ x.2.2.size ≤ 100 - x.1 ∧ 20 ≤ x.1 ∧ x.1 ≤ 30 ∧ decL x.1 x.2.1 x.2.2 = dec n) (fun x => x.1) (30, n, ByteArray.empty) (by simp) ⟨by simp [Has, upd_apply, argsT]; rfl, rfl, by simp [dec]; omega⟩ ?_))
  rintro ⟨f, k, s⟩ st hH hm ⟨hk, hkf, he, hsz, hf20, hf30, hc⟩
  dsimp only at hH hm hk hkf he hsz hf20 hf30 hc
  simp only [Has, List.mem_cons, List.not_mem_nil, or_false, forall_eq_or_imp, forall_eq] at hH; obtain ⟨i0, i3, i4⟩ := hH
  obtain ⟨f, rfl⟩ : ∃ g, f = g + 1 := ⟨f - 1, by omega⟩
  rw [decL] at hc
  have hmod : ((n : Int)) = n := rfl
  by_cases hrun : s = ByteArray.empty ∨ 0 < k
  · rw [if_pos hrun] at hc
    have hf21 : 20 ≤ f := by
      rcases hrun with h | h
      · have := he h; omega
      · by_cases h20 : f + 1 - 20 = 0
        · rw [h20] at hkf; omega
        · omega
    have hpow : k / 10 < 10 ^ (f - 20) := by
      have : f + 1 - 20 = (f - 20) + 1 := by omega
      rw [this, Nat.pow_succ] at hkf
      omega
    have w1 : IntKind.i64.wrap (48 + (k : Int).tmod 10) = ((48 + k % 10 : Nat) : Int) := by
      have : (k : Int).tmod 10 = ((k % 10 : Nat) : Int) := by rw [Int.tmod_eq_emod_of_nonneg (by omega)]; omega
      rw [this, wrap_small (by omega) (by omega)]; omega
    have w2 : IntKind.u8.wrap ((48 + k % 10 : Nat) : Int) = ((48 + k % 10 : Nat) : Int) := by
      simp only [IntKind.wrap, IntKind.bits, IntKind.signed]; simp; omega
    have w3 : IntKind.i64.wrap ((k : Int).tdiv 10) = ((k / 10 : Nat) : Int) := by
      have : (k : Int).tdiv 10 = ((k / 10 : Nat) : Int) := by rw [Int.tdiv_eq_ediv_of_nonneg (by omega)]; omega
      rw [this, wrap_small (by omega) (by omega)]
    have hsz1 : (ByteArray.empty.push (UInt8.ofNat (48 + k % 10))).size = 1 := rfl
    have hbd : (ByteArray.empty.push (UInt8.ofNat (48 + k % 10))).size + s.size ≤ 9223372036854775807 := by rw [hsz1]; omega
    have h10 : ¬ (10 : Int) = 0 := by decide
    have hne : digit k ++ s ≠ ByteArray.empty := by
      intro h
      have := congrArg ByteArray.size h
      rw [ByteArray.size_append] at this
      have h1 : (digit k).size = 1 := rfl
      have h0 : ByteArray.empty.size = 0 := rfl
      omega
    have hns : (digit k ++ s).size = 1 + s.size := by rw [ByteArray.size_append]; rfl
    rcases hrunb : decide (s = ⟨#[]⟩) with _ | _
    · have hse : ¬ s = ByteArray.empty := by
        intro h; rw [h] at hrunb; exact absurd hrunb (by decide)
      have hk0 : (0 : Int) < (k : Int) := by
        rcases hrun with h | h
        · exact absurd h hse
        · omega
      refine TS.of [] fun Q hQ => ?_
      simp only [go_sem, true_or, or_true, Int.cast_ofNat_Int, not_true_eq_false, true_implies, forall_const, not_false_eq_true, List.size_toArray, Array.size_empty, and_self, ne_eq, not_false_eq_true, Nat.reduceEqDiff, Nat.mul_one, List.contains_nil, List.contains_cons, Bool.false_or, Bool.or_false, false_implies, implies_true, beq_self_eq_true, Nat.reduceBEq, Int.ofNat_le, Int.reduceToNat, Int.reduceLT, Int.reduceLE, Int.reduceEq, Nat.reduceLeDiff, Nat.reduceLT, Nat.reduceEqDiff, Nat.reduceMul, Nat.reduceAdd, Nat.reduceBEq, List.length_cons, List.length_nil, String.reduceEq, i0, i3, i4, hm, hrunb, hk0, w1, w2, w3, hbd, h10]
      refine hQ .normal _ ?_; clear hQ Q
      refine ⟨_, _, (f, k / 10, digit k ++ s), DropW.refl m, ?_, ⟨by dsimp only; omega, hpow, fun h => absurd h hne, by dsimp only; rw [hns]; omega, hf21, by dsimp only; omega, hc⟩, by dsimp only; omega⟩
      simp [upd_apply, i4, IV.np, digit]
    · have hse : s = ⟨#[]⟩ := by simpa using hrunb
      refine TS.of [] fun Q hQ => ?_
      simp only [go_sem, true_or, or_true, Int.cast_ofNat_Int, not_true_eq_false, true_implies, forall_const, not_false_eq_true, List.size_toArray, Array.size_empty, and_self, ne_eq, not_false_eq_true, Nat.reduceEqDiff, Nat.mul_one, List.contains_nil, List.contains_cons, Bool.false_or, Bool.or_false, false_implies, implies_true, beq_self_eq_true, Nat.reduceBEq, Int.ofNat_le, Int.reduceToNat, Int.reduceLT, Int.reduceLE, Int.reduceEq, Nat.reduceLeDiff, Nat.reduceLT, Nat.reduceEqDiff, Nat.reduceMul, Nat.reduceAdd, Nat.reduceBEq, List.length_cons, List.length_nil, String.reduceEq, i0, i3, i4, hm, hrunb, w1, w2, w3, hbd, h10]
      refine hQ .normal _ ?_; clear hQ Q
      refine ⟨_, _, (f, k / 10, digit k ++ s), DropW.refl m, ?_, ⟨by dsimp only; omega, hpow, fun h => absurd h hne, by dsimp only; rw [hns]; omega, hf21, by dsimp only; omega, hc⟩, by dsimp only; omega⟩
      simp [upd_apply, i4, IV.np, digit]
  · rw [if_neg hrun] at hc
    have hse : decide (s = ⟨#[]⟩) = false := by
      apply decide_eq_false
      intro h; exact hrun (.inl h)
    have hk0 : ¬ (0 : Int) < (k : Int) := by
      intro h; exact hrun (.inr (by omega))
    refine TS.of [] fun Q hQ => ?_
    simp only [go_sem, true_or, or_true, Int.cast_ofNat_Int, not_true_eq_false, true_implies, forall_const, not_false_eq_true, List.size_toArray, Array.size_empty, and_self, ne_eq, not_false_eq_true, Nat.reduceEqDiff, Nat.mul_one, List.contains_nil, List.contains_cons, Bool.false_or, Bool.or_false, false_implies, implies_true, beq_self_eq_true, Nat.reduceBEq, Int.ofNat_le, Int.reduceToNat, Int.reduceLT, Int.reduceLE, Int.reduceEq, Nat.reduceLeDiff, Nat.reduceLT, Nat.reduceEqDiff, Nat.reduceMul, Nat.reduceAdd, Nat.reduceBEq, List.length_cons, List.length_nil, String.reduceEq, i0, i3, i4, hm, hse, hk0]
    refine hQ (.exit 0) _ ?_; clear hQ Q
    refine TS.of [] fun Q hQ => ?_
    simp only [go_sem, true_or, or_true, Int.cast_ofNat_Int, not_true_eq_false, true_implies, forall_const, not_false_eq_true, List.size_toArray, Array.size_empty, and_self, ne_eq, not_false_eq_true, Nat.reduceEqDiff, Nat.mul_one, List.contains_nil, List.contains_cons, Bool.false_or, Bool.or_false, false_implies, implies_true, beq_self_eq_true, Nat.reduceBEq, Int.ofNat_le, Int.reduceToNat, Int.reduceLT, Int.reduceLE, Int.reduceEq, Nat.reduceLeDiff, Nat.reduceLT, Nat.reduceEqDiff, Nat.reduceMul, Nat.reduceAdd, Nat.reduceBEq, List.length_cons, List.length_nil, String.reduceEq, i0, i3, i4, hm]
    refine hQ .ret _ ?_; exact post_ret _ _ _ rfl rfl (DropW.refl _) ⟨by rw [← hc]; rfl, rfl⟩
end Go.Proofs.Ytphjldhdnmoolaa.A
/- The walks of some functions over the abstract machine. -/
namespace Go.Proofs.Ytphjldhdnmoolaa.A
open Go
/-! CheckCalls -/
def sO : Bytes := ⟨#[111]⟩
def sP : Bytes := ⟨#[112]⟩
def pname (i : Nat) : Bytes := sP ++ dec i
def pnames (k : Nat) : List Bytes := (List.range k).map pname
def cdef (k : Nat) : Def := ⟨sO, pnames k, [], [], []⟩
theorem pnames_succ (k : Nat) : pnames (k + 1) = pnames k ++ [pname k] := by simp [pnames, List.range_succ]
theorem pnames_len (k : Nat) : (pnames k).length = k := by simp [pnames]
theorem cdef_ok {k : Nat} (h : k < 10) : DefOK (cdef k) := ⟨by simp [cdef, szs, szt], by simp [cdef, pnames_len]; omega, by simp [cdef, fineTs]⟩
set_option maxRecDepth 100000 in
theorem cdef_fault : ∀ k, k < 10 → faultP (check (cdef k)).2 = if 8 < k then (15, 0) else (0, 0)
  | 0, _ => by kernel_rfl
  | 1, _ => by kernel_rfl
  | 2, _ => by kernel_rfl
  | 3, _ => by kernel_rfl
  | 4, _ => by kernel_rfl
  | 5, _ => by kernel_rfl
  | 6, _ => by kernel_rfl
  | 7, _ => by kernel_rfl
  | 8, _ => by kernel_rfl
  | 9, _ => by kernel_rfl
  | n + 10, h => by omega
theorem dec_size : ∀ k, k < 10 → (dec k).size = 1
  | 0, _ => by kernel_rfl
  | 1, _ => by kernel_rfl
  | 2, _ => by kernel_rfl
  | 3, _ => by kernel_rfl
  | 4, _ => by kernel_rfl
  | 5, _ => by kernel_rfl
  | 6, _ => by kernel_rfl
  | 7, _ => by kernel_rfl
  | 8, _ => by kernel_rfl
  | 9, _ => by kernel_rfl
  | n + 10, h => by omega
theorem umod (p : Int) : ∃ k : Nat, k < 10 ∧ IntKind.i64.wrap ((IntKind.u64.wrap p).tmod 10) = (k : Int) := by
  have h0 : 0 ≤ IntKind.u64.wrap p := by simp only [IntKind.wrap, IntKind.bits, IntKind.signed]; simp; omega
  refine ⟨((IntKind.u64.wrap p).tmod 10).toNat, ?_, ?_⟩
  · rw [Int.tmod_eq_emod_of_nonneg h0]; omega
  · rw [Int.tmod_eq_emod_of_nonneg h0, wrap_small (by omega) (by omega)]; omega
set_option maxRecDepth 100000 in
set_option maxHeartbeats 4000000 in
theorem calls_law (m : Mem) (p : Int) (args : List Int) : Sim 11 [ii p, .sl .sh args.length (args.map (IV.v <| .int .i64 ·))] m (fun r m' => r = bb true ∧ m' = m) := by
  obtain ⟨k, hk, hkw⟩ := umod p
  refine Sim.ofS 72 [.tmp 4] Try.func11 rfl rfl rfl (by simp) fun wr => ?_
  simp only [go_sem, true_or, or_true, Int.cast_ofNat_Int, not_true_eq_false, true_implies, forall_const, not_false_eq_true, List.size_toArray, Array.size_empty, and_self, ne_eq, not_false_eq_true, Nat.reduceEqDiff, Nat.mul_one, List.contains_nil, List.contains_cons, Bool.false_or, Bool.or_false, false_implies, implies_true, beq_self_eq_true, Nat.reduceBEq, Int.ofNat_le, Int.reduceToNat, Int.reduceLT, Int.reduceLE, Int.reduceEq, Nat.reduceLeDiff, Nat.reduceLT, Nat.reduceEqDiff, Nat.reduceMul, Nat.reduceAdd, Nat.reduceBEq, List.length_cons, List.length_nil, String.reduceEq]
  refine TS.seq (TS.of [] fun Q hQ => ?_)
  simp only [go_sem, true_or, or_true, Int.cast_ofNat_Int, not_true_eq_false, true_implies, forall_const, not_false_eq_true, List.size_toArray, Array.size_empty, and_self, ne_eq, not_false_eq_true, Nat.reduceEqDiff, Nat.mul_one, List.contains_nil, List.contains_cons, Bool.false_or, Bool.or_false, false_implies, implies_true, beq_self_eq_true, Nat.reduceBEq, Int.ofNat_le, Int.reduceToNat, Int.reduceLT, Int.reduceLE, Int.reduceEq, Nat.reduceLeDiff, Nat.reduceLT, Nat.reduceEqDiff, Nat.reduceMul, Nat.reduceAdd, Nat.reduceBEq, List.length_cons, List.length_nil, String.reduceEq]
  refine hQ .normal _ ?_; clear hQ Q
  refine TS.seq (TS.of [] fun Q hQ => ?_)
  simp only [go_sem, true_or, or_true, Int.cast_ofNat_Int, not_true_eq_false, true_implies, forall_const, not_false_eq_true, List.size_toArray, Array.size_empty, and_self, ne_eq, not_false_eq_true, Nat.reduceEqDiff, Nat.mul_one, List.contains_nil, List.contains_cons, Bool.false_or, Bool.or_false, false_implies, implies_true, beq_self_eq_true, Nat.reduceBEq, Int.ofNat_le, Int.reduceToNat, Int.reduceLT, Int.reduceLE, Int.reduceEq, Nat.reduceLeDiff, Nat.reduceLT, Nat.reduceEqDiff, Nat.reduceMul, Nat.reduceAdd, Nat.reduceBEq, List.length_cons, List.length_nil, String.reduceEq]
  refine cal_eq (alive8_sim _) ?_
  simp only [go_sem, true_or, or_true, Int.cast_ofNat_Int, not_true_eq_false, true_implies, forall_const, not_false_eq_true, List.size_toArray, Array.size_empty, and_self, ne_eq, not_false_eq_true, Nat.reduceEqDiff, Nat.mul_one, List.contains_nil, List.contains_cons, Bool.false_or, Bool.or_false, false_implies, implies_true, beq_self_eq_true, Nat.reduceBEq, Int.ofNat_le, Int.reduceToNat, Int.reduceLT, Int.reduceLE, Int.reduceEq, Nat.reduceLeDiff, Nat.reduceLT, Nat.reduceEqDiff, Nat.reduceMul, Nat.reduceAdd, Nat.reduceBEq, List.length_cons, List.length_nil, String.reduceEq]
  refine hQ .normal _ ?_; clear hQ Q
  refine TS.seq (TS.of [] fun Q hQ => ?_)
  simp only [go_sem, true_or, or_true, Int.cast_ofNat_Int, not_true_eq_false, true_implies, forall_const, not_false_eq_true, List.size_toArray, Array.size_empty, and_self, ne_eq, not_false_eq_true, Nat.reduceEqDiff, Nat.mul_one, List.contains_nil, List.contains_cons, Bool.false_or, Bool.or_false, false_implies, implies_true, beq_self_eq_true, Nat.reduceBEq, Int.ofNat_le, Int.reduceToNat, Int.reduceLT, Int.reduceLE, Int.reduceEq, Nat.reduceLeDiff, Nat.reduceLT, Nat.reduceEqDiff, Nat.reduceMul, Nat.reduceAdd, Nat.reduceBEq, List.length_cons, List.length_nil, String.reduceEq]
  refine hQ .normal _ ?_; clear hQ Q
  refine TS.seq (TS.of [] fun Q hQ => ?_)
  simp only [go_sem, true_or, or_true, Int.cast_ofNat_Int, not_true_eq_false, true_implies, forall_const, not_false_eq_true, List.size_toArray, Array.size_empty, and_self, ne_eq, not_false_eq_true, Nat.reduceEqDiff, Nat.mul_one, List.contains_nil, List.contains_cons, Bool.false_or, Bool.or_false, false_implies, implies_true, beq_self_eq_true, Nat.reduceBEq, Int.ofNat_le, Int.reduceToNat, Int.reduceLT, Int.reduceLE, Int.reduceEq, Nat.reduceLeDiff, Nat.reduceLT, Nat.reduceEqDiff, Nat.reduceMul, Nat.reduceAdd, Nat.reduceBEq, List.length_cons, List.length_nil, String.reduceEq, hkw, show ¬ ((10 : Int) = 0) by decide]
  refine hQ .normal _ ?_; clear hQ Q
  refine TS.seq (TS.mono (Q := fun e s => e = .normal ∧ (s.t 0 = ii k ∧ s.t 1 = .sl .sh args.length (args.map (IV.v <| .int .i64 ·)) ∧ s.t 5 = .ptr m.objs.length 0) ∧ s.m = ⟨m.objs ++ [.cells [ss sO, slP m.rows.length (pnames k), F0, F0, F0]], (accM m k).rows⟩) ?_ ?_)
  · refine TS.seq (TS.of [] fun Q hQ => ?_)
    simp only [go_sem, true_or, or_true, Int.cast_ofNat_Int, not_true_eq_false, true_implies, forall_const, not_false_eq_true, List.size_toArray, Array.size_empty, and_self, ne_eq, not_false_eq_true, Nat.reduceEqDiff, Nat.mul_one, List.contains_nil, List.contains_cons, Bool.false_or, Bool.or_false, false_implies, implies_true, beq_self_eq_true, Nat.reduceBEq, Int.ofNat_le, Int.reduceToNat, Int.reduceLT, Int.reduceLE, Int.reduceEq, Nat.reduceLeDiff, Nat.reduceLT, Nat.reduceEqDiff, Nat.reduceMul, Nat.reduceAdd, Nat.reduceBEq, List.length_cons, List.length_nil, String.reduceEq]
    refine hQ .normal _ ?_; clear hQ Q
    refine TS.block (TS.loop (α := Nat) (fun i => [(0, ii k), (1, .sl .sh args.length (args.map (IV.v <| .int .i64 ·))), (5, .ptr m.objs.length 0), (6, ii i)]) (fun i => ⟨m.objs ++ [.cells [ss sO, slP m.rows.length (pnames i), F0, F0, F0]], (accM m i).rows⟩) (fun i => i ≤ k) (fun i => k - i) 0 (by simp) ⟨by simp [Has, upd_apply, argsT], rfl, by omega⟩ ?_)
    rintro i st hH hm hi
    simp only [Has, List.mem_cons, List.not_mem_nil, or_false, forall_eq_or_imp, forall_eq] at hH; obtain ⟨i0, i1, i5, i6⟩ := hH
    by_cases hlt : i < k
    · have hw := wrap_succ hlt (by omega)
      have hds := dec_size i (by omega)
      have hlen : ((pnames i).map (fun s => (IV.v (.string s)))).length = (pnames i).length := by simp
      have happ := acc_app m 9 (pnames i).length 1 (by decide)
      have hpl := pnames_len i
      have hbound : ((pnames i).length + 1) * 16 ≤ 140737488355328 := by omega
      rw [hpl] at happ hbound
      have hsz : sP.size + (dec i).size ≤ 9223372036854775807 := by rw [hds]; decide
      refine TS.of [] fun Q hQ => ?_
      simp only [go_sem, true_or, or_true, Int.cast_ofNat_Int, not_true_eq_false, true_implies, forall_const, not_false_eq_true, List.size_toArray, Array.size_empty, and_self, ne_eq, not_false_eq_true, Nat.reduceEqDiff, Nat.mul_one, List.contains_nil, List.contains_cons, Bool.false_or, Bool.or_false, false_implies, implies_true, beq_self_eq_true, Nat.reduceBEq, Int.ofNat_le, Int.reduceToNat, Int.reduceLT, Int.reduceLE, Int.reduceEq, Nat.reduceLeDiff, Nat.reduceLT, Nat.reduceEqDiff, Nat.reduceMul, Nat.reduceAdd, Nat.reduceBEq, List.length_cons, List.length_nil, String.reduceEq, i0, i1, i5, i6, hm, hlt]
      refine drn_of ⟨[], [], []⟩ [0, 1, 0, 4, 12, 28, 63, 127, 255] (by kernel_rfl) ?_
      simp only [go_sem, true_or, or_true, Int.cast_ofNat_Int, not_true_eq_false, true_implies, forall_const, not_false_eq_true, List.size_toArray, Array.size_empty, and_self, ne_eq, not_false_eq_true, Nat.reduceEqDiff, Nat.mul_one, List.contains_nil, List.contains_cons, Bool.false_or, Bool.or_false, false_implies, implies_true, beq_self_eq_true, Nat.reduceBEq, Int.ofNat_le, Int.reduceToNat, Int.reduceLT, Int.reduceLE, Int.reduceEq, Nat.reduceLeDiff, Nat.reduceLT, Nat.reduceEqDiff, Nat.reduceMul, Nat.reduceAdd, Nat.reduceBEq, List.length_cons, List.length_nil, String.reduceEq, i0, i1, i5, i6]
      refine cald_eq (dec_sim _ i (by omega)) ?_
      simp only [go_sem, true_or, or_true, Int.cast_ofNat_Int, not_true_eq_false, true_implies, forall_const, not_false_eq_true, List.size_toArray, Array.size_empty, and_self, ne_eq, not_false_eq_true, Nat.reduceEqDiff, Nat.mul_one, List.contains_nil, List.contains_cons, Bool.false_or, Bool.or_false, false_implies, implies_true, beq_self_eq_true, Nat.reduceBEq, Int.ofNat_le, Int.reduceToNat, Int.reduceLT, Int.reduceLE, Int.reduceEq, Nat.reduceLeDiff, Nat.reduceLT, Nat.reduceEqDiff, Nat.reduceMul, Nat.reduceAdd, Nat.reduceBEq, List.length_cons, List.length_nil, String.reduceEq, i0, i1, i5, i6, show (1 + ByteArray.size (dec i) ≤ 9223372036854775807) from hsz, hlen, hpl, happ, hbound, hw]
      refine hQ .normal _ ?_; clear hQ Q
      refine ⟨m.objs.length + 1, (accM m (i + 1)).rows.length, i + 1, ?_, ?_, hlt, by omega⟩
      · rw [pnames_succ, slP_app, hpl]
        exact DropW.loc m.objs [.cells [_, _, _, _, _]] [.cells [_, _, _, _, _]] [] _ _ _ (Nat.le_refl _) (by simp [IObj.np, npL, IV.np, np_full, npS, npL_app, accK_np2, accM_lt]) (accM_len m _ _) (by simp)
      · simp [upd_apply, i0, i1, i5, IV.np, np_sh, npI] <;> omega
    · refine TS.of [] fun Q hQ => ?_
      simp only [go_sem, true_or, or_true, Int.cast_ofNat_Int, not_true_eq_false, true_implies, forall_const, not_false_eq_true, List.size_toArray, Array.size_empty, and_self, ne_eq, not_false_eq_true, Nat.reduceEqDiff, Nat.mul_one, List.contains_nil, List.contains_cons, Bool.false_or, Bool.or_false, false_implies, implies_true, beq_self_eq_true, Nat.reduceBEq, Int.ofNat_le, Int.reduceToNat, Int.reduceLT, Int.reduceLE, Int.reduceEq, Nat.reduceLeDiff, Nat.reduceLT, Nat.reduceEqDiff, Nat.reduceMul, Nat.reduceAdd, Nat.reduceBEq, List.length_cons, List.length_nil, String.reduceEq, i0, i1, i5, i6, hm, hlt]
      refine hQ (.exit 0) _ ?_; clear hQ Q
      obtain rfl : i = k := by omega
      exact ⟨rfl, by simp [upd_apply, i0, i1, i5], rfl⟩
  rintro e s2 ⟨rfl, ⟨i0, i1, i5⟩, hm2⟩
  have hcf := cdef_fault k hk
  have hsub := fun m => calls_sim m (cdef k) args
  have hsub2 := fun m => check_sim m (cdef k) (cdef_ok hk)
  have hpl := pnames_len k
  generalize check (cdef k) = X at hcf hsub2
  obtain ⟨x, q⟩ := X
  simp only [cdef, encD, slS, slE, slT, encEs, encTs, List.length_nil, hpl] at hsub hsub2
  have hend : ∀ b : Nat → IV, DropW m m.objs.length m.rows.length ⟨m.objs ++ [.cells [ss sO, slP m.rows.length (pnames k), F0, F0, F0]] ++ [.cells (encI x)], (accM m k).rows⟩ m := fun _ => by
    refine DropW.tail [.cells [ss sO, slP m.rows.length (pnames k), F0, F0, F0], .cells (encI x)] (if k = 0 then [] else [k]) ?_
    unfold accM; split <;> simp
  have hw : ∀ b : Bool, (if b = true then (15 : Int) else 0, (0 : Int)) = (if b = true then (15, 0) else (0, 0)) := fun b => by cases b <;> rfl
  obtain ⟨code, hcode, hq⟩ : ∃ c : Int, faultP q = (c, 0) ∧ (decide (c = 15) = decide (8 < (k : Int))) := by
    rw [hcf]
    by_cases h8 : 8 < k
    · exact ⟨15, by rw [if_pos h8], by simp; omega⟩
    · exact ⟨0, by rw [if_neg h8], by simp; omega⟩
  refine TS_cases q (fun hq0 => ?_) (fun pq hq0 => ?_)
  all_goals subst hq0
  all_goals by_cases ha : args.length = k
  all_goals have ha' := ha
  all_goals rw [← Int.ofNat_inj] at ha'
  all_goals refine TS.of [] fun Q hQ => ?_
  all_goals (simp only [go_sem, true_or, or_true, Int.cast_ofNat_Int, not_true_eq_false, true_implies, forall_const, not_false_eq_true, List.size_toArray, Array.size_empty, and_self, ne_eq, not_false_eq_true, Nat.reduceEqDiff, Nat.mul_one, List.contains_nil, List.contains_cons, Bool.false_or, Bool.or_false, false_implies, implies_true, beq_self_eq_true, Nat.reduceBEq, Int.ofNat_le, Int.reduceToNat, Int.reduceLT, Int.reduceLE, Int.reduceEq, Nat.reduceLeDiff, Nat.reduceLT, Nat.reduceEqDiff, Nat.reduceMul, Nat.reduceAdd, Nat.reduceBEq, List.length_cons, List.length_nil, String.reduceEq, i0, i1, i5, hm2, hpl])
  all_goals refine cal_eq (hsub _) ?_
  all_goals first | rw [if_pos ha] | rw [if_neg ha]
  all_goals (simp only [go_sem, true_or, or_true, Int.cast_ofNat_Int, not_true_eq_false, true_implies, forall_const, not_false_eq_true, List.size_toArray, Array.size_empty, and_self, ne_eq, not_false_eq_true, Nat.reduceEqDiff, Nat.mul_one, List.contains_nil, List.contains_cons, Bool.false_or, Bool.or_false, false_implies, implies_true, beq_self_eq_true, Nat.reduceBEq, Int.ofNat_le, Int.reduceToNat, Int.reduceLT, Int.reduceLE, Int.reduceEq, Nat.reduceLeDiff, Nat.reduceLT, Nat.reduceEqDiff, Nat.reduceMul, Nat.reduceAdd, Nat.reduceBEq, List.length_cons, List.length_nil, String.reduceEq, i0, i1, i5, hm2, hpl])
  all_goals refine cal_eq (hsub2 _) ?_
  all_goals (simp only [go_sem, true_or, or_true, Int.cast_ofNat_Int, not_true_eq_false, true_implies, forall_const, not_false_eq_true, List.size_toArray, Array.size_empty, and_self, ne_eq, not_false_eq_true, Nat.reduceEqDiff, Nat.mul_one, List.contains_nil, List.contains_cons, Bool.false_or, Bool.or_false, false_implies, implies_true, beq_self_eq_true, Nat.reduceBEq, Int.ofNat_le, Int.reduceToNat, Int.reduceLT, Int.reduceLE, Int.reduceEq, Nat.reduceLeDiff, Nat.reduceLT, Nat.reduceEqDiff, Nat.reduceMul, Nat.reduceAdd, Nat.reduceBEq, List.length_cons, List.length_nil, String.reduceEq, errI_none, errI_some])
  all_goals first | (refine cal_eq (fault_sim _ none) ?_) | (refine cal_eq (fault_sim _ (some _)) ?_)
  all_goals rw [hcode]
  all_goals (simp only [go_sem, true_or, or_true, Int.cast_ofNat_Int, not_true_eq_false, true_implies, forall_const, not_false_eq_true, List.size_toArray, Array.size_empty, and_self, ne_eq, not_false_eq_true, Nat.reduceEqDiff, Nat.mul_one, List.contains_nil, List.contains_cons, Bool.false_or, Bool.or_false, false_implies, implies_true, beq_self_eq_true, Nat.reduceBEq, Int.ofNat_le, Int.reduceToNat, Int.reduceLT, Int.reduceLE, Int.reduceEq, Nat.reduceLeDiff, Nat.reduceLT, Nat.reduceEqDiff, Nat.reduceMul, Nat.reduceAdd, Nat.reduceBEq, List.length_cons, List.length_nil, String.reduceEq, i0, i1, ha', hq])
  all_goals (refine hQ .ret _ ?_; clear hQ Q; refine post_ret _ _ (bb true) ?_ rfl (?_ : DropW m m.objs.length m.rows.length _ m) ⟨rfl, rfl⟩)
  all_goals first | (exact hend (fun _ => F0)) | (simp only [List.append_assoc] at hend; exact hend (fun _ => F0)) | skip
  all_goals (simp only [go_sem, true_or, or_true, Int.cast_ofNat_Int, not_true_eq_false, true_implies, forall_const, not_false_eq_true, List.size_toArray, Array.size_empty, and_self, ne_eq, not_false_eq_true, Nat.reduceEqDiff, Nat.mul_one, List.contains_nil, List.contains_cons, Bool.false_or, Bool.or_false, false_implies, implies_true, beq_self_eq_true, Nat.reduceBEq, Int.ofNat_le, Int.reduceToNat, Int.reduceLT, Int.reduceLE, Int.reduceEq, Nat.reduceLeDiff, Nat.reduceLT, Nat.reduceEqDiff, Nat.reduceMul, Nat.reduceAdd, Nat.reduceBEq, List.length_cons, List.length_nil, String.reduceEq, i0, i1, ha', hq])
  all_goals try (cases decide (8 < (k : Int)) <;> rfl)
end Go.Proofs.Ytphjldhdnmoolaa.A
/- Words for the rows: what came in, seen by the abstract machine. -/
namespace Go.Proofs.Ytphjldhdnmoolaa.A
open Go Go.ChangeShapes Go.WideShapes Go.ChangeAt Go.RowKit Go.Joins
theorem own : ownKnob Try.prog.godebug = none := by kernel_rfl
theorem laidOut : laidOutB Try.prog = true := by kernel_rfl
def K0 (w : World) : K := ⟨[], [], fun b j => ∃ v, w.cell? ⟨b, j, none⟩ = some v⟩
def M0 : Mem := ⟨[], []⟩
theorem inv0 (w : World) : Inv (wr0 (K0 w) w) (K0 w) w M0 :=
  ⟨rfl, fun i j b h => by simp [K0] at h, fun o b x h => by simp [K0] at h, rfl, fun k r h => by simp [K0] at h, fun i j r r' h => by simp [K0] at h,
    fun b j h => ⟨by simp [K0], h⟩, fun b h => by simp [K0] at h, fun k r h => by simp [K0] at h, fun b h => .inr (.inr h)⟩
theorem calls_of_sim {f : FuncId} {args : List IV} {w : World} {vs : Array Value} (h : Sim f args M0 (fun r m' => r = .v (.bool true) ∧ m' = M0)) (hl : RelL (K0 w) w args vs.toList) :
    Calls Try.prog f vs w fun e w' => e = .returned (.bool true) ∧ Below w.heap.size w w' := by
  refine (h (K0 w) w vs (inv0 w) hl).mono ?_
  rintro e w' ⟨κ', v, r, m', rfl, hev, hi, hr, rfl, rfl⟩
  refine ⟨?_, hev.os, hev.tape, hev.output, hev.size, fun k hk => (hev.keep k hk ?_).1⟩
  · simp only [Rel] at hr; rw [hr]
  · rintro (h | ⟨k, r, h, _⟩ | h)
    · simp [K0] at h
    · simp [K0] at h
    · omega
theorem places_lt {H : Type} {enc : TypeId × Value → H} {P : Program} {W : World} {base : Nat} {spare : Nat → Bool} {held : Bool} {t : TypeId} {v : Value} {d : DataW H} {p : List MemPlace} (h : DataW.Trod enc P W base spare held t v d p) : ∀ x ∈ p, x.block < W.heap.size := by
  obtain ⟨m, hm⟩ := h
  exact DataW.trod_lt m _ _ _ hm
theorem relC_cells {w : World} {b : Nat} : ∀ {l : List Value} {off : Nat}, (∀ i, i < l.length → w.cell? ⟨b, off + i, none⟩ = l[i]?) → RelC (K0 w) w b off (l.map .v)
  | [], _, _ => by simp [RelC]
  | x :: l, off, h => by
    have h0 := h 0 (by simp)
    simp only [List.map_cons, RelC]
    refine ⟨⟨x, by simpa using h0⟩, ⟨x, by simpa using h0, rfl⟩, relC_cells fun i hi => ?_⟩
    have h1 := h (i + 1) (by simpa using hi)
    simpa [Nat.add_assoc, Nat.add_comm 1 i] using h1
/-- A slice of whole numbers that came in. -/
theorem rel_ints {H : Type} {enc : TypeId × Value → H} {P : Program} {W : World} {t e : TypeId} {k : IntKind} {fuel : Nat} {cs : List Value} {x : DataW H × List MemPlace} {ts : List TypeId} {ds : List (DataW H)} {j : Nat} (hu : P.underlying t = some (.slice e)) (he : P.underlying e = some (.int k)) (hc : P.cellsOf e = 1)
    (h : DataW.trod enc P W 0 (fun _ => true) true fuel t cs = some x) (hsz : (DataW.weightsEach P ts ds).all (· ≤ reachBytes) = true) (ht : ts[j]? = some t) (hd : ds[j]? = some x.1) {B : Nat} (hB : P.bytesOf e = B) :
    ∃ (A : Option Addr) (l : List Int) (c : Nat), cs = [.slice A l.length c] ∧ l.length ≤ c ∧ Rel (K0 W) W (.sl .sh l.length (l.map (IV.v <| .int k ·))) (.slice A l.length c) ∧ (∀ n ∈ l, (Lit.int k n).wf = true) ∧ l.length * B ≤ 140737488351232 := by
  rcases open_ints hu he hc h with ⟨rfl, rfl⟩ | ⟨a, len, cap, zs, rfl, _, hl, hm, hz, hx, hcell, hwz⟩
  · exact ⟨none, [], 0, rfl, Nat.le_refl _, ⟨none, 0, rfl, Nat.le_refl _, trivial, .inl rfl⟩, (fun n hn => by cases hn), by simp⟩
  · have hz' : zs.length = cap := by simpa using hz
    have hlen : (zs.take len).length = len := by rw [List.length_take]; omega
    have hsize := sized_slice hsz ht (elems := lits k (zs.take len)) (spare := lits k (zs.drop len)) (by rw [hd, hx]) hu
    rw [hB] at hsize
    have h1 : (lits (H := H) k (zs.take len)).length + (lits (H := H) k (zs.drop len)).length = zs.length := by
      simp [lits]
      omega
    rw [h1] at hsize
    refine ⟨some a, zs.take len, cap, by rw [hlen], by rw [hlen]; omega, ⟨some a, cap, rfl, by rw [hlen]; omega, trivial, ?_⟩, fun n hn => hwz n (List.mem_of_mem_take hn), by rw [hlen]; exact Nat.le_trans (Nat.mul_le_mul_right _ (by omega)) hsize⟩
    by_cases h0 : len = 0
    · left; subst h0; rfl
    · right
      have hg : ∀ i, i < (zs.take len).length → W.cell? (a.add i) = ((zs.take len).map (Value.int k))[i]? := by
        intro i hi
        rw [hlen] at hi
        rw [hcell i (by omega), List.getElem?_map, List.getElem?_take_of_lt hi, List.getElem?_eq_getElem (by omega), List.getD_eq_getElem?_getD, List.getElem?_eq_getElem (by omega)]; rfl
      have hsp : a.spot = none := by
        have := hg 0 (by rw [hlen]; omega)
        cases hs : a.spot with
        | none => rfl
        | some q =>
          exfalso
          have h2 := hcell 0 (by omega)
          unfold World.cell? at h2
          split at h2
          · have : (a.add 0).spot = some q := hs
            rw [this] at h2; simp at h2
          · cases h2
      obtain ⟨b, off, sp⟩ := a
      subst hsp
      refine ⟨b, off, rfl, ?_⟩
      have := relC_cells (w := W) (b := b) (off := off) (l := (zs.take len).map (Value.int k)) (fun i hi => by rw [List.length_map] at hi; have h5 := hg i hi; by_cases e0 : i = 0 <;> simpa [Addr.add, e0] using h5)
      rw [List.map_map] at this
      exact this
theorem relL_nil (κ : K) (w : World) : RelL κ w [] [] := rfl
theorem relL_cons {κ : K} {w : World} {i : IV} {v : Value} {l : List IV} {vs : List Value} (h : Rel κ w i v) (g : RelL κ w l vs) : RelL κ w (i :: l) (v :: vs) := ⟨v, vs, rfl, h, g⟩
theorem rel_v (κ : K) (w : World) (x : Value) : Rel κ w (.v x) x := rfl
theorem int_wf {x : Int} (h : (Lit.int .i64 x).wf = true) : -9223372036854775808 ≤ x ∧ x ≤ 9223372036854775807 := by
  simp [Lit.wf, IntKind.min, IntKind.max, IntKind.signed, IntKind.bits] at h
  omega
end Go.Proofs.Ytphjldhdnmoolaa.A
