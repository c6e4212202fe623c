/- Joined: B24, B25, B26, B28, C0 -/
import Derived.Test.YtphjldhdnmoolaaJBase3
import Derived.Below
import Derived.ProofKit
import Derived.OpenShut
import Derived.ShutString
import Derived.ChangeOld
import Derived.ChangeMaps5
import Derived.SizedLaws
import Derived.Lib.SmallJoins
import Derived.RowKit
set_option linter.unusedVariables false
set_option linter.unusedSimpArgs false
/- The walks of some functions over the abstract machine. -/
namespace Go.Proofs.Ytphjldhdnmoolaa.A
open Go
/-! numbers of texts -/
def numQ (t : Tok) : Prop := t.k = 2 → allB t.s digits = true ∧ numOK t.s = true
theorem kindT_num {t : Bytes} {b : Bool} (h : kindT t b = 2) : allB t digits = true ∧ numOK t = true := by
  unfold kindT at h
  split at h
  · cases h
  · split at h
    · rename_i hc; simp only [Bool.and_eq_true] at hc; exact hc.2
    · split at h <;> cases h
theorem toksF_num (s : Bytes) : ∀ (f p : Nat) (acc : List Tok), (∀ t ∈ acc, numQ t) → ∀ t ∈ (toksF s f p acc).1, numQ t
  | 0, p, acc, h, t, ht => by simp [toksF] at ht
  | f + 1, p, acc, h, t, ht => by
    unfold toksF at ht
    split at ht
    · rcases List.mem_append.1 ht with ht | ht
      · exact h t ht
      · simp at ht; subst ht; intro hk; cases hk
    · split at ht
      · exact toksF_num s f _ acc h t ht
      · split at ht
        · exact toksF_num s f _ acc h t ht
        · split at ht
          · simp at ht
          · refine toksF_num s f _ _ ?_ t ht
            intro t ht
            rcases List.mem_append.1 ht with ht | ht
            · exact h t ht
            · simp at ht; subst ht; exact fun hk => kindT_num hk
def dv (n : Nat) (b : UInt8) : Nat := 10 * n + (b.toNat - 48)
def isD (b : UInt8) : Bool := decide (48 ≤ b.toNat) && decide (b.toNat ≤ 57)
theorem hasB_digit {b : UInt8} (h : hasB digits b.toNat = true) : 48 ≤ b.toNat ∧ b.toNat ≤ 57 := by
  unfold hasB at h
  have hL : L digits = [48, 49, 50, 51, 52, 53, 54, 55, 56, 57] := rfl
  rw [hL] at h
  simp at h
  omega
theorem dv_lt : ∀ (l : List UInt8) (n : Nat), (∀ b ∈ l, 48 ≤ b.toNat ∧ b.toNat ≤ 57) → l.foldl dv n < (n + 1) * 10 ^ l.length
  | [], n, _ => by simp
  | b :: l, n, h => by
    have h1 := dv_lt l (dv n b) (fun x hx => h x (List.mem_cons_of_mem _ hx))
    have h2 := h b (List.mem_cons_self ..)
    simp only [List.foldl_cons, List.length_cons]
    refine Nat.lt_of_lt_of_le h1 ?_
    rw [Nat.pow_succ, Nat.mul_comm (10 ^ l.length) 10, ← Nat.mul_assoc]
    apply Nat.mul_le_mul_right
    unfold dv; omega
theorem dv_ge : ∀ (l : List UInt8) (n : Nat), n * 10 ^ l.length ≤ l.foldl dv n
  | [], n => by simp
  | b :: l, n => by
    have h1 := dv_ge l (dv n b)
    simp only [List.foldl_cons, List.length_cons]
    refine Nat.le_trans ?_ h1
    rw [Nat.pow_succ, Nat.mul_comm (10 ^ l.length) 10, ← Nat.mul_assoc]
    apply Nat.mul_le_mul_right
    unfold dv; omega
/-- As long as the whole is small, nothing wraps. -/
theorem numV_eq : ∀ (l : List UInt8) (n : Nat), (∀ b ∈ l, 48 ≤ b.toNat ∧ b.toNat ≤ 57) → l.foldl dv n < 9223372036854775808 → l.foldl digV (n : Int) = ((l.foldl dv n : Nat) : Int)
  | [], n, _, _ => rfl
  | b :: l, n, h, hs => by
    have h2 := h b (List.mem_cons_self ..)
    simp only [List.foldl_cons] at hs ⊢
    have h3 := dv_ge l (dv n b)
    have h4 : dv n b < 9223372036854775808 := by
      have : 1 ≤ 10 ^ l.length := Nat.one_le_pow _ _ (by decide)
      have := Nat.mul_le_mul_left (dv n b) this
      omega
    have e : digV n b = ((dv n b : Nat) : Int) := by
      unfold digV dv at *
      simp only [IntKind.wrap, IntKind.bits, IntKind.signed]
      simp
      omega
    rw [e]
    exact numV_eq l (dv n b) (fun x hx => h x (List.mem_cons_of_mem _ hx)) hs
theorem dv_lex : ∀ (a b : List UInt8) (n : Nat), a.length = b.length → (∀ x ∈ a, 48 ≤ x.toNat ∧ x.toNat ≤ 57) → (∀ x ∈ b, 48 ≤ x.toNat ∧ x.toNat ≤ 57) → Op.bytesLess a b = true → a.foldl dv n < b.foldl dv n
  | [], [], n, _, _, _, h => by cases h
  | x :: a, y :: b, n, hl, ha, hb, h => by
    have hx := ha x (List.mem_cons_self ..)
    have hy := hb y (List.mem_cons_self ..)
    have hl' : a.length = b.length := by simpa using hl
    simp only [Op.bytesLess, Bool.or_eq_true, decide_eq_true_eq, Bool.and_eq_true, beq_iff_eq] at h
    simp only [List.foldl_cons]
    rcases h with h | ⟨h, h'⟩
    · have h0 : x.toNat < y.toNat := UInt8.lt_iff_toNat_lt.1 h
      have h1 := dv_lt a (dv n x) (fun z hz => ha z (List.mem_cons_of_mem _ hz))
      have h2 := dv_ge b (dv n y)
      have h3 : dv n x + 1 ≤ dv n y := by unfold dv; omega
      have h4 := Nat.mul_le_mul_right (10 ^ a.length) h3
      rw [hl'] at h1 h4
      omega
    · subst h
      exact dv_lex a b _ hl' (fun z hz => ha z (List.mem_cons_of_mem _ hz)) (fun z hz => hb z (List.mem_cons_of_mem _ hz)) h'
theorem numV_nat {s : Bytes} (h1 : allB s digits = true) (h2 : numOK s = true) : numV s = (((L s).foldl dv 0 : Nat) : Int) ∧ (L s).foldl dv 0 < 9223372036854775808 := by
  have hd : ∀ b ∈ L s, 48 ≤ b.toNat ∧ b.toNat ≤ 57 := by
    intro b hb
    unfold allB at h1
    exact hasB_digit (List.all_eq_true.1 h1 b hb)
  have hlt : (L s).foldl dv 0 < 9223372036854775808 := by
    have hb := dv_lt (L s) 0 hd
    unfold numOK at h2
    simp only [Bool.and_eq_true, Bool.or_eq_true, Bool.not_eq_true', Bool.or_eq_false_iff, decide_eq_true_eq, decide_eq_false_iff_not] at h2
    obtain ⟨⟨_, h3⟩, h4⟩ := h2
    have hlen := L_len s
    rcases h4 with h4 | h4 | h4
    · have : 10 ^ (L s).length ≤ 10 ^ 18 := Nat.pow_le_pow_right (by decide) (by omega)
      omega
    · have e1 : s.toList = L s := toList_eq s
      have e2 : maxNum.toList = L maxNum := toList_eq _
      have hm : (L maxNum).foldl dv 0 = 9223372036854775807 := by decide
      by_cases h19 : s.size = 19
      · have := dv_lex (L s) (L maxNum) 0 (by rw [hlen, h19]; rfl) hd (by decide) (by rw [← e1, ← e2]; exact h4)
        omega
      · have : 10 ^ (L s).length ≤ 10 ^ 18 := Nat.pow_le_pow_right (by decide) (by omega)
        omega
    · have hm : (L maxNum).foldl dv 0 = 9223372036854775807 := by decide
      rw [h4]; omega
  exact ⟨numV_eq (L s) 0 hd hlt, hlt⟩
theorem parse_ok {s : Bytes} (h : (parse s).2.1 = 0) : DefOK (parse s).1 := by
  unfold parse at h ⊢
  dsimp only at h ⊢
  split at h
  · rename_i hc; exact absurd h hc
  · rename_i hc
    rw [if_neg hc]
    have hc' : (tokens s).2.1 = 0 := by simpa using hc
    split at h
    · cases h
    · rename_i hp
      rw [if_neg hp]
      obtain ⟨l0, e1, e2, e3, e4⟩ := tokens_ok hc'
      have hnum : numsOK (tokens s).1 := by
        intro p hk
        have hq : numQ (tk (tokens s).1 p) := by
          unfold tk
          rw [List.getD_eq_getElem?_getD]
          cases hg : (tokens s).1[p.toNat]? with
          | none => intro hk; cases hk
          | some x =>
            have hm := List.mem_of_getElem? hg
            simp only [Option.getD_some]
            unfold tokens at hm
            split at hm
            · simp at hm
            · exact toksF_num s _ _ _ (by simp) x hm
        obtain ⟨q1, q2⟩ := hq hk
        rw [(numV_nat q1 q2).1]
        omega
      have hT : Toks (tokens s).1 := by rw [e1]; exact Toks.of rfl e2 e4.kind
      have hpos : 0 ≤ (defP (tokens s).1).2 := by
        have h0 : fixP (tokens s).1 (defP (tokens s).1).2 = (defP (tokens s).1).2 ∨ fixP (tokens s).1 (defP (tokens s).1).2 = bad (defP (tokens s).1).2 := by unfold fixP; split <;> simp
        rcases h0 with h0 | h0
        · rw [h0] at hp; omega
        · exfalso
          apply hp
          by_cases hn : 0 ≤ (defP (tokens s).1).2
          · rw [h0]; unfold bad; omega
          · have : fixP (tokens s).1 (defP (tokens s).1).2 = (defP (tokens s).1).2 := by unfold fixP; simp [hn]
            rw [this]; omega
      have hk := defP_took hnum hpos
      have hok := (defP_ok hT).2
      have hlen : (tokens s).1.length ≤ 481 := by rw [e1]; simp; omega
      exact ⟨by dsimp only; omega, by dsimp only; omega, hk.2⟩
end Go.Proofs.Ytphjldhdnmoolaa.A
/- The walks of some functions over the abstract machine. -/
namespace Go.Proofs.Ytphjldhdnmoolaa.A
open Go
def w1 : Bytes := ⟨#[111, 112, 32, 111, 40, 41, 32, 123, 32, 91, 120, 93, 32, 61, 32, 49, 59, 32, 125]⟩
def w2 : Bytes := ⟨#[111, 112, 32, 103, 101, 116, 40, 105, 41, 32, 123, 32, 103, 105, 118, 101, 32, 91, 105, 93, 59, 32, 125]⟩
def w3 : Bytes := ⟨#[111, 112, 32, 97, 100, 100, 40, 105, 44, 32, 118, 41, 32, 123, 32, 110, 101, 101, 100, 32, 105, 32, 60, 32, 54, 48, 59, 32, 91, 105, 93, 32, 43, 61, 32, 118, 59, 32, 125]⟩
set_option maxRecDepth 100000 in
theorem w1_ok : checkedP w1 = (Info0, 9, 10, true) := by kernel_rfl
set_option maxRecDepth 100000 in
theorem w2_ok : (checkedP w2).1.mode = 1 ∧ (checkedP w2).2.1 = 0 := by constructor <;> kernel_rfl
set_option maxRecDepth 100000 in
theorem w3_ok : (checkedP w3).1.mode = 2 ∧ (checkedP w3).1.turns = true ∧ (checkedP w3).1.names = 2 ∧ (checkedP w3).2.1 = 0 ∧ (checkedP w3).2.2.2 = true := by refine ⟨?_, ?_, ?_, ?_, ?_⟩ <;> kernel_rfl
set_option maxRecDepth 100000 in
set_option maxHeartbeats 4000000 in
theorem alive8_sim (m : Mem) : Sim 21 [] m (fun r m' => r = bb true ∧ m' = m) := by
  refine Sim.ofS 67 [.tmp 0] Try.func21 rfl rfl rfl (by simp) fun wr => ?_
  simp only [go_sem, true_or, or_true, Int.cast_ofNat_Int, not_true_eq_false, true_implies, forall_const, not_false_eq_true, List.size_toArray, Array.size_empty, and_self, ne_eq, not_false_eq_true, Nat.reduceEqDiff, Nat.mul_one, List.contains_nil, List.contains_cons, Bool.false_or, Bool.or_false, false_implies, implies_true, beq_self_eq_true, Nat.reduceBEq, Int.ofNat_le, Int.reduceToNat, Int.reduceLT, Int.reduceLE, Int.reduceEq, Nat.reduceLeDiff, Nat.reduceLT, Nat.reduceEqDiff, Nat.reduceMul, Nat.reduceAdd, Nat.reduceBEq, List.length_cons, List.length_nil, String.reduceEq]
  have h1 := fun m => checked_sim m w1 (by decide) parse_ok
  have h2 := fun m => checked_sim m w2 (by decide) parse_ok
  have h3 := fun m => checked_sim m w3 (by decide) parse_ok
  rw [w1_ok] at h1
  obtain ⟨q1, q2⟩ := w2_ok
  obtain ⟨r1, r2, r3, r4, r5⟩ := w3_ok
  generalize checkedP w2 = X at h2 q1 q2
  generalize checkedP w3 = Y at h3 r1 r2 r3 r4 r5
  refine TS.of [] fun Q hQ => ?_
  simp only [go_sem, true_or, or_true, Int.cast_ofNat_Int, not_true_eq_false, true_implies, forall_const, not_false_eq_true, List.size_toArray, Array.size_empty, and_self, ne_eq, not_false_eq_true, Nat.reduceEqDiff, Nat.mul_one, List.contains_nil, List.contains_cons, Bool.false_or, Bool.or_false, false_implies, implies_true, beq_self_eq_true, Nat.reduceBEq, Int.ofNat_le, Int.reduceToNat, Int.reduceLT, Int.reduceLE, Int.reduceEq, Nat.reduceLeDiff, Nat.reduceLT, Nat.reduceEqDiff, Nat.reduceMul, Nat.reduceAdd, Nat.reduceBEq, List.length_cons, List.length_nil, String.reduceEq]
  refine cal_eq (h3 _) ?_
  simp only [go_sem, true_or, or_true, Int.cast_ofNat_Int, not_true_eq_false, true_implies, forall_const, not_false_eq_true, List.size_toArray, Array.size_empty, and_self, ne_eq, not_false_eq_true, Nat.reduceEqDiff, Nat.mul_one, List.contains_nil, List.contains_cons, Bool.false_or, Bool.or_false, false_implies, implies_true, beq_self_eq_true, Nat.reduceBEq, Int.ofNat_le, Int.reduceToNat, Int.reduceLT, Int.reduceLE, Int.reduceEq, Nat.reduceLeDiff, Nat.reduceLT, Nat.reduceEqDiff, Nat.reduceMul, Nat.reduceAdd, Nat.reduceBEq, List.length_cons, List.length_nil, String.reduceEq]
  refine cal_eq (h2 _) ?_
  simp only [go_sem, true_or, or_true, Int.cast_ofNat_Int, not_true_eq_false, true_implies, forall_const, not_false_eq_true, List.size_toArray, Array.size_empty, and_self, ne_eq, not_false_eq_true, Nat.reduceEqDiff, Nat.mul_one, List.contains_nil, List.contains_cons, Bool.false_or, Bool.or_false, false_implies, implies_true, beq_self_eq_true, Nat.reduceBEq, Int.ofNat_le, Int.reduceToNat, Int.reduceLT, Int.reduceLE, Int.reduceEq, Nat.reduceLeDiff, Nat.reduceLT, Nat.reduceEqDiff, Nat.reduceMul, Nat.reduceAdd, Nat.reduceBEq, List.length_cons, List.length_nil, String.reduceEq]
  refine cal_eq (h1 _) ?_
  simp only [go_sem, true_or, or_true, Int.cast_ofNat_Int, not_true_eq_false, true_implies, forall_const, not_false_eq_true, List.size_toArray, Array.size_empty, and_self, ne_eq, not_false_eq_true, Nat.reduceEqDiff, Nat.mul_one, List.contains_nil, List.contains_cons, Bool.false_or, Bool.or_false, false_implies, implies_true, beq_self_eq_true, Nat.reduceBEq, Int.ofNat_le, Int.reduceToNat, Int.reduceLT, Int.reduceLE, Int.reduceEq, Nat.reduceLeDiff, Nat.reduceLT, Nat.reduceEqDiff, Nat.reduceMul, Nat.reduceAdd, Nat.reduceBEq, List.length_cons, List.length_nil, String.reduceEq, q1, q2, r1, r2, r3, r4, r5]
  refine hQ .ret _ ?_; clear hQ Q; refine post_ret _ _ (bb true) ?_ rfl (DropW.tail0 _ rfl) ⟨rfl, rfl⟩
  simp only [go_sem, true_or, or_true, Int.cast_ofNat_Int, not_true_eq_false, true_implies, forall_const, not_false_eq_true, List.size_toArray, Array.size_empty, and_self, ne_eq, not_false_eq_true, Nat.reduceEqDiff, Nat.mul_one, List.contains_nil, List.contains_cons, Bool.false_or, Bool.or_false, false_implies, implies_true, beq_self_eq_true, Nat.reduceBEq, Int.ofNat_le, Int.reduceToNat, Int.reduceLT, Int.reduceLE, Int.reduceEq, Nat.reduceLeDiff, Nat.reduceLT, Nat.reduceEqDiff, Nat.reduceMul, Nat.reduceAdd, Nat.reduceBEq, List.length_cons, List.length_nil, String.reduceEq]
end Go.Proofs.Ytphjldhdnmoolaa.A
/- The walks of some functions over the abstract machine. -/
namespace Go.Proofs.Ytphjldhdnmoolaa.A
open Go
/-! decimal numbers -/
def digit (n : Nat) : Bytes := ByteArray.empty.push (UInt8.ofNat (48 + n % 10))
def decL : Nat → Nat → Bytes → Bytes
  | 0, _, s => s
  | f + 1, n, s => if s = ByteArray.empty ∨ 0 < n then decL f (n / 10) (digit n ++ s) else s
def dec (n : Nat) : Bytes := decL 30 n ByteArray.empty
set_option maxRecDepth 100000 in
set_option maxHeartbeats 4000000 in
theorem dec_sim (m : Mem) (n : Nat) (hn : n < 1000000) : Sim 37 [ii n] m (fun r m' => r = ss (dec n) ∧ m' = m) := by
  refine Sim.ofS 32 [.tmp 2] Try.func37 rfl rfl rfl (by simp) fun wr => ?_
  simp only [go_sem, true_or, or_true, Int.cast_ofNat_Int, not_true_eq_false, true_implies, forall_const, not_false_eq_true, List.size_toArray, Array.size_empty, and_self, ne_eq, not_false_eq_true, Nat.reduceEqDiff, Nat.mul_one, List.contains_nil, List.contains_cons, Bool.false_or, Bool.or_false, false_implies, implies_true, beq_self_eq_true, Nat.reduceBEq, Int.ofNat_le, Int.reduceToNat, Int.reduceLT, Int.reduceLE, Int.reduceEq, Nat.reduceLeDiff, Nat.reduceLT, Nat.reduceEqDiff, Nat.reduceMul, Nat.reduceAdd, Nat.reduceBEq, List.length_cons, List.length_nil, String.reduceEq]
  refine TS.seq (TS.of [] fun Q hQ => ?_)
  simp only [go_sem, true_or, or_true, Int.cast_ofNat_Int, not_true_eq_false, true_implies, forall_const, not_false_eq_true, List.size_toArray, Array.size_empty, and_self, ne_eq, not_false_eq_true, Nat.reduceEqDiff, Nat.mul_one, List.contains_nil, List.contains_cons, Bool.false_or, Bool.or_false, false_implies, implies_true, beq_self_eq_true, Nat.reduceBEq, Int.ofNat_le, Int.reduceToNat, Int.reduceLT, Int.reduceLE, Int.reduceEq, Nat.reduceLeDiff, Nat.reduceLT, Nat.reduceEqDiff, Nat.reduceMul, Nat.reduceAdd, Nat.reduceBEq, List.length_cons, List.length_nil, String.reduceEq]
  refine hQ .normal _ ?_; clear hQ Q
  have e1 : ¬ ((n : Int) = -9223372036854775808) := by omega
  have e2 : ¬ ((n : Int) < 0) := by omega
  refine TS.seq (TS.of [] fun Q hQ => ?_)
  simp only [go_sem, true_or, or_true, Int.cast_ofNat_Int, not_true_eq_false, true_implies, forall_const, not_false_eq_true, List.size_toArray, Array.size_empty, and_self, ne_eq, not_false_eq_true, Nat.reduceEqDiff, Nat.mul_one, List.contains_nil, List.contains_cons, Bool.false_or, Bool.or_false, false_implies, implies_true, beq_self_eq_true, Nat.reduceBEq, Int.ofNat_le, Int.reduceToNat, Int.reduceLT, Int.reduceLE, Int.reduceEq, Nat.reduceLeDiff, Nat.reduceLT, Nat.reduceEqDiff, Nat.reduceMul, Nat.reduceAdd, Nat.reduceBEq, List.length_cons, List.length_nil, String.reduceEq, e1]
  refine hQ .normal _ ?_; clear hQ Q
  refine TS.seq (TS.of [] fun Q hQ => ?_)
  simp only [go_sem, true_or, or_true, Int.cast_ofNat_Int, not_true_eq_false, true_implies, forall_const, not_false_eq_true, List.size_toArray, Array.size_empty, and_self, ne_eq, not_false_eq_true, Nat.reduceEqDiff, Nat.mul_one, List.contains_nil, List.contains_cons, Bool.false_or, Bool.or_false, false_implies, implies_true, beq_self_eq_true, Nat.reduceBEq, Int.ofNat_le, Int.reduceToNat, Int.reduceLT, Int.reduceLE, Int.reduceEq, Nat.reduceLeDiff, Nat.reduceLT, Nat.reduceEqDiff, Nat.reduceMul, Nat.reduceAdd, Nat.reduceBEq, List.length_cons, List.length_nil, String.reduceEq]
  refine hQ .normal _ ?_; clear hQ Q
  refine TS.seq (TS.of [] fun Q hQ => ?_)
  simp only [go_sem, true_or, or_true, Int.cast_ofNat_Int, not_true_eq_false, true_implies, forall_const, not_false_eq_true, List.size_toArray, Array.size_empty, and_self, ne_eq, not_false_eq_true, Nat.reduceEqDiff, Nat.mul_one, List.contains_nil, List.contains_cons, Bool.false_or, Bool.or_false, false_implies, implies_true, beq_self_eq_true, Nat.reduceBEq, Int.ofNat_le, Int.reduceToNat, Int.reduceLT, Int.reduceLE, Int.reduceEq, Nat.reduceLeDiff, Nat.reduceLT, Nat.reduceEqDiff, Nat.reduceMul, Nat.reduceAdd, Nat.reduceBEq, List.length_cons, List.length_nil, String.reduceEq, e2]
  refine hQ .normal _ ?_; clear hQ Q
  refine TS.seq (TS.of [] fun Q hQ => ?_)
  simp only [go_sem, true_or, or_true, Int.cast_ofNat_Int, not_true_eq_false, true_implies, forall_const, not_false_eq_true, List.size_toArray, Array.size_empty, and_self, ne_eq, not_false_eq_true, Nat.reduceEqDiff, Nat.mul_one, List.contains_nil, List.contains_cons, Bool.false_or, Bool.or_false, false_implies, implies_true, beq_self_eq_true, Nat.reduceBEq, Int.ofNat_le, Int.reduceToNat, Int.reduceLT, Int.reduceLE, Int.reduceEq, Nat.reduceLeDiff, Nat.reduceLT, Nat.reduceEqDiff, Nat.reduceMul, Nat.reduceAdd, Nat.reduceBEq, List.length_cons, List.length_nil, String.reduceEq]
  refine hQ .normal _ ?_; clear hQ Q
  refine TS.seq (TS.block (TS.loop (α := Nat × Nat × Bytes) (fun x => [(0, ii x.2.1), (3, ss x.2.2), (4, bb false)]) (fun _ => m) (fun x => x.2.1 < 1000000 ∧ x.2.1 < 10 ^ (x.1 - 20) ∧ (x.2.2 = ByteArray.empty → x.1 = 30) ∧ x.2.2.size ≤ 100 - x.1 ∧ 20 ≤ x.1 ∧ x.1 ≤ 30 ∧ decL x.1 x.2.1 x.2.2 = dec n) (fun x => x.1) (30, n, ByteArray.empty) (by simp) ⟨by simp [Has, upd_apply, argsT]; rfl, rfl, by simp [dec]; omega⟩ ?_))
  rintro ⟨f, k, s⟩ st hH hm ⟨hk, hkf, he, hsz, hf20, hf30, hc⟩
  dsimp only at hH hm hk hkf he hsz hf20 hf30 hc
  simp only [Has, List.mem_cons, List.not_mem_nil, or_false, forall_eq_or_imp, forall_eq] at hH; obtain ⟨i0, i3, i4⟩ := hH
  obtain ⟨f, rfl⟩ : ∃ g, f = g + 1 := ⟨f - 1, by omega⟩
  rw [decL] at hc
  have hmod : ((n : Int)) = n := rfl
  by_cases hrun : s = ByteArray.empty ∨ 0 < k
  · rw [if_pos hrun] at hc
    have hf21 : 20 ≤ f := by
      rcases hrun with h | h
      · have := he h; omega
      · by_cases h20 : f + 1 - 20 = 0
        · rw [h20] at hkf; omega
        · omega
    have hpow : k / 10 < 10 ^ (f - 20) := by
      have : f + 1 - 20 = (f - 20) + 1 := by omega
      rw [this, Nat.pow_succ] at hkf
      omega
    have w1 : IntKind.i64.wrap (48 + (k : Int).tmod 10) = ((48 + k % 10 : Nat) : Int) := by
      have : (k : Int).tmod 10 = ((k % 10 : Nat) : Int) := by rw [Int.tmod_eq_emod_of_nonneg (by omega)]; omega
      rw [this, wrap_small (by omega) (by omega)]; omega
    have w2 : IntKind.u8.wrap ((48 + k % 10 : Nat) : Int) = ((48 + k % 10 : Nat) : Int) := by
      simp only [IntKind.wrap, IntKind.bits, IntKind.signed]; simp; omega
    have w3 : IntKind.i64.wrap ((k : Int).tdiv 10) = ((k / 10 : Nat) : Int) := by
      have : (k : Int).tdiv 10 = ((k / 10 : Nat) : Int) := by rw [Int.tdiv_eq_ediv_of_nonneg (by omega)]; omega
      rw [this, wrap_small (by omega) (by omega)]
    have hsz1 : (ByteArray.empty.push (UInt8.ofNat (48 + k % 10))).size = 1 := rfl
    have hbd : (ByteArray.empty.push (UInt8.ofNat (48 + k % 10))).size + s.size ≤ 9223372036854775807 := by rw [hsz1]; omega
    have h10 : ¬ (10 : Int) = 0 := by decide
    have hne : digit k ++ s ≠ ByteArray.empty := by
      intro h
      have := congrArg ByteArray.size h
      rw [ByteArray.size_append] at this
      have h1 : (digit k).size = 1 := rfl
      have h0 : ByteArray.empty.size = 0 := rfl
      omega
    have hns : (digit k ++ s).size = 1 + s.size := by rw [ByteArray.size_append]; rfl
    rcases hrunb : decide (s = ⟨#[]⟩) with _ | _
    · have hse : ¬ s = ByteArray.empty := by
        intro h; rw [h] at hrunb; exact absurd hrunb (by decide)
      have hk0 : (0 : Int) < (k : Int) := by
        rcases hrun with h | h
        · exact absurd h hse
        · omega
      refine TS.of [] fun Q hQ => ?_
      simp only [go_sem, true_or, or_true, Int.cast_ofNat_Int, not_true_eq_false, true_implies, forall_const, not_false_eq_true, List.size_toArray, Array.size_empty, and_self, ne_eq, not_false_eq_true, Nat.reduceEqDiff, Nat.mul_one, List.contains_nil, List.contains_cons, Bool.false_or, Bool.or_false, false_implies, implies_true, beq_self_eq_true, Nat.reduceBEq, Int.ofNat_le, Int.reduceToNat, Int.reduceLT, Int.reduceLE, Int.reduceEq, Nat.reduceLeDiff, Nat.reduceLT, Nat.reduceEqDiff, Nat.reduceMul, Nat.reduceAdd, Nat.reduceBEq, List.length_cons, List.length_nil, String.reduceEq, i0, i3, i4, hm, hrunb, hk0, w1, w2, w3, hbd, h10]
      refine hQ .normal _ ?_; clear hQ Q
      refine ⟨_, _, (f, k / 10, digit k ++ s), DropW.refl m, ?_, ⟨by dsimp only; omega, hpow, fun h => absurd h hne, by dsimp only; rw [hns]; omega, hf21, by dsimp only; omega, hc⟩, by dsimp only; omega⟩
      simp [upd_apply, i4, IV.np, digit]
    · have hse : s = ⟨#[]⟩ := by simpa using hrunb
      refine TS.of [] fun Q hQ => ?_
      simp only [go_sem, true_or, or_true, Int.cast_ofNat_Int, not_true_eq_false, true_implies, forall_const, not_false_eq_true, List.size_toArray, Array.size_empty, and_self, ne_eq, not_false_eq_true, Nat.reduceEqDiff, Nat.mul_one, List.contains_nil, List.contains_cons, Bool.false_or, Bool.or_false, false_implies, implies_true, beq_self_eq_true, Nat.reduceBEq, Int.ofNat_le, Int.reduceToNat, Int.reduceLT, Int.reduceLE, Int.reduceEq, Nat.reduceLeDiff, Nat.reduceLT, Nat.reduceEqDiff, Nat.reduceMul, Nat.reduceAdd, Nat.reduceBEq, List.length_cons, List.length_nil, String.reduceEq, i0, i3, i4, hm, hrunb, w1, w2, w3, hbd, h10]
      refine hQ .normal _ ?_; clear hQ Q
      refine ⟨_, _, (f, k / 10, digit k ++ s), DropW.refl m, ?_, ⟨by dsimp only; omega, hpow, fun h => absurd h hne, by dsimp only; rw [hns]; omega, hf21, by dsimp only; omega, hc⟩, by dsimp only; omega⟩
      simp [upd_apply, i4, IV.np, digit]
  · rw [if_neg hrun] at hc
    have hse : decide (s = ⟨#[]⟩) = false := by
      apply decide_eq_false
      intro h; exact hrun (.inl h)
    have hk0 : ¬ (0 : Int) < (k : Int) := by
      intro h; exact hrun (.inr (by omega))
    refine TS.of [] fun Q hQ => ?_
    simp only [go_sem, true_or, or_true, Int.cast_ofNat_Int, not_true_eq_false, true_implies, forall_const, not_false_eq_true, List.size_toArray, Array.size_empty, and_self, ne_eq, not_false_eq_true, Nat.reduceEqDiff, Nat.mul_one, List.contains_nil, List.contains_cons, Bool.false_or, Bool.or_false, false_implies, implies_true, beq_self_eq_true, Nat.reduceBEq, Int.ofNat_le, Int.reduceToNat, Int.reduceLT, Int.reduceLE, Int.reduceEq, Nat.reduceLeDiff, Nat.reduceLT, Nat.reduceEqDiff, Nat.reduceMul, Nat.reduceAdd, Nat.reduceBEq, List.length_cons, List.length_nil, String.reduceEq, i0, i3, i4, hm, hse, hk0]
    refine hQ (.exit 0) _ ?_; clear hQ Q
    refine TS.of [] fun Q hQ => ?_
    simp only [go_sem, true_or, or_true, Int.cast_ofNat_Int, not_true_eq_false, true_implies, forall_const, not_false_eq_true, List.size_toArray, Array.size_empty, and_self, ne_eq, not_false_eq_true, Nat.reduceEqDiff, Nat.mul_one, List.contains_nil, List.contains_cons, Bool.false_or, Bool.or_false, false_implies, implies_true, beq_self_eq_true, Nat.reduceBEq, Int.ofNat_le, Int.reduceToNat, Int.reduceLT, Int.reduceLE, Int.reduceEq, Nat.reduceLeDiff, Nat.reduceLT, Nat.reduceEqDiff, Nat.reduceMul, Nat.reduceAdd, Nat.reduceBEq, List.length_cons, List.length_nil, String.reduceEq, i0, i3, i4, hm]
    refine hQ .ret _ ?_; exact post_ret _ _ _ rfl rfl (DropW.refl _) ⟨by rw [← hc]; rfl, rfl⟩
end Go.Proofs.Ytphjldhdnmoolaa.A
/- The walks of some functions over the abstract machine. -/
namespace Go.Proofs.Ytphjldhdnmoolaa.A
open Go
/-! a quick lexer -/
def isLet (b : UInt8) : Bool := (decide (65 ≤ b.toNat) && decide (b.toNat ≤ 90)) || (decide (97 ≤ b.toNat) && decide (b.toNat ≤ 122))
def isDig (b : UInt8) : Bool := decide (48 ≤ b.toNat) && decide (b.toNat ≤ 57)
def isWly (b : UInt8) : Bool := isLet b || isDig b || decide (b.toNat = 95)
def isSgn (b : UInt8) : Bool := hasB signs b.toNat
theorem u8_all {p : UInt8 → Bool} (h : (List.range 256).all (fun n => p (UInt8.ofNat n)) = true) (b : UInt8) : p b = true := by
  have h1 := List.all_eq_true.1 h b.toNat (List.mem_range.2 b.toNat_lt)
  simpa using h1
set_option maxRecDepth 100000 in
theorem has_letters (b : UInt8) : hasB letters b.toNat = isLet b := by
  simpa using u8_all (p := fun b => decide (hasB letters b.toNat = isLet b)) (by kernel_rfl) b
set_option maxRecDepth 100000 in
theorem has_wordly (b : UInt8) : hasB wordly b.toNat = isWly b := by
  simpa using u8_all (p := fun b => decide (hasB wordly b.toNat = isWly b)) (by kernel_rfl) b
set_option maxRecDepth 100000 in
theorem has_digits (b : UInt8) : hasB digits b.toNat = isDig b := by
  simpa using u8_all (p := fun b => decide (hasB digits b.toNat = isDig b)) (by kernel_rfl) b
set_option maxRecDepth 100000 in
theorem let_facts (b : UInt8) : (isLet b → isDig b = false ∧ isSgn b = false ∧ isWly b = true ∧ b.toNat ≠ 38 ∧ b.toNat ≠ 124 ∧ b.toNat ≠ 46 ∧ b.toNat ≠ 35 ∧ b.toNat ≠ 32 ∧ b.toNat ≠ 9 ∧ b.toNat ≠ 10) := by
  have := u8_all (p := fun b => !isLet b || (!isDig b && (!isSgn b && (isWly b && (!decide (b.toNat = 38) && (!decide (b.toNat = 124) && (!decide (b.toNat = 46) && (!decide (b.toNat = 35) && (!decide (b.toNat = 32) && (!decide (b.toNat = 9) && !decide (b.toNat = 10))))))))))) (by kernel_rfl) b
  intro h; simpa [h] using this
set_option maxRecDepth 100000 in
theorem dig_facts (b : UInt8) : (isDig b → isLet b = false ∧ isSgn b = false ∧ b.toNat ≠ 38 ∧ b.toNat ≠ 124 ∧ b.toNat ≠ 46 ∧ b.toNat ≠ 35 ∧ b.toNat ≠ 32 ∧ b.toNat ≠ 9 ∧ b.toNat ≠ 10) := by
  have := u8_all (p := fun b => !isDig b || (!isLet b && (!isSgn b && (!decide (b.toNat = 38) && (!decide (b.toNat = 124) && (!decide (b.toNat = 46) && (!decide (b.toNat = 35) && (!decide (b.toNat = 32) && (!decide (b.toNat = 9) && !decide (b.toNat = 10)))))))))) (by kernel_rfl) b
  intro h; simpa [h] using this
def ofL (l : List UInt8) : Bytes := ⟨⟨l⟩⟩
theorem L_ofL (l : List UInt8) : L (ofL l) = l := rfl
theorem ofL_L (s : Bytes) : ofL (L s) = s := rfl
theorem L_inj {s t : Bytes} (h : L s = L t) : s = t := by rw [← ofL_L s, ← ofL_L t, h]
def twoL (l : List UInt8) : Bool := decide (l = [43, 61]) || decide (l = [45, 61]) || decide (l = [60, 62]) || decide (l = [60, 61]) || decide (l = [62, 61]) || decide (l = [61, 61]) || decide (l = [33, 61]) || decide (l = [38, 38]) || decide (l = [124, 124]) || decide (l = [46, 46])
theorem two_L (s : Bytes) : two s = twoL (L s) := by
  have h : ∀ t : Bytes, decide (s = t) = decide (L s = L t) := fun t => by
    rw [decide_eq_decide]; exact ⟨fun h => by rw [h], L_inj⟩
  unfold two twoL
  simp only [h]
  rfl
theorem twoL_len {l : List UInt8} (h : twoL l = true) : l.length = 2 := by
  unfold twoL at h
  simp only [Bool.or_eq_true, decide_eq_true_eq] at h
  rcases h with (((((((((h | h) | h) | h) | h) | h) | h) | h) | h) | h) <;> rw [h] <;> rfl
set_option maxRecDepth 100000 in
theorem twoL_first {b : UInt8} {r : List UInt8} (h : twoL (b :: r) = true) : isSgn b = true ∨ b.toNat = 38 ∨ b.toNat = 124 ∨ b.toNat = 46 := by
  unfold twoL at h
  simp only [Bool.or_eq_true, decide_eq_true_eq, List.cons.injEq] at h
  rcases h with (((((((((h | h) | h) | h) | h) | h) | h) | h) | h) | h) <;> obtain ⟨rfl, rfl⟩ := h <;> decide
def goodL : List UInt8 → Bool
  | [] => true
  | b :: r => if isLet b then r.all isWly else if isDig b then r.all isDig else match r with
    | [] => isSgn b
    | c :: r => twoL (b :: c :: r)
theorem longB_L (s : Bytes) : longB s = match L s with | b :: r => isLet b && (b :: r).all isWly | [] => false := by
  unfold longB allB
  cases L s with
  | nil => rfl
  | cons b r => simp only [List.getElem?_cons_zero, has_letters, has_wordly]
theorem signB_L (s : Bytes) : signB s = match L s with | [] => false | [b] => isSgn b | b :: c :: r => twoL (b :: c :: r) := by
  unfold signB
  rw [two_L, ← L_len]
  cases L s with
  | nil => rfl
  | cons b r => cases r with
    | nil => simp [isSgn]
    | cons c r => simp
theorem good_L (s : Bytes) : good s = goodL (L s) := by
  unfold good
  rw [longB_L, signB_L]
  unfold allB
  simp only [has_digits]
  cases L s with
  | nil => rfl
  | cons b r =>
    by_cases hl : isLet b = true
    · have h := let_facts b hl
      have h2 : (match b :: r with | [] => false | [b] => isSgn b | b :: c :: r => twoL (b :: c :: r)) = false := by
        cases r with
        | nil => exact h.2.1
        | cons c r =>
          dsimp only
          cases e : twoL (b :: c :: r) with
          | false => rfl
          | true => exact absurd (twoL_first e) (by simp [h])
      rw [h2]
      simp [goodL, hl, h]
    · by_cases hd : isDig b = true
      · have h := dig_facts b hd
        have h2 : (match b :: r with | [] => false | [b] => isSgn b | b :: c :: r => twoL (b :: c :: r)) = false := by
          cases r with
          | nil => exact h.2.1
          | cons c r =>
            dsimp only
            cases e : twoL (b :: c :: r) with
            | false => rfl
            | true => exact absurd (twoL_first e) (by simp [h])
        rw [h2]
        simp [goodL, hd, h]
      · simp only [goodL, hl, hd]
        cases r with
        | nil => simp [hl, hd]
        | cons c r => simp [hl, hd]
def sgnLen (b : UInt8) : List UInt8 → Nat
  | [] => if isSgn b then 1 else 0
  | c :: _ => if twoL [b, c] then 2 else if isSgn b then 1 else 0
def tlen : List UInt8 → Nat
  | [] => 0
  | b :: r => if isLet b then 1 + (r.takeWhile isWly).length else if isDig b then 1 + (r.takeWhile isDig).length else sgnLen b r
theorem all_take {p : UInt8 → Bool} : ∀ (r : List UInt8) (j : Nat), j ≤ r.length → ((r.take j).all p = true ↔ j ≤ (r.takeWhile p).length)
  | [], j, h => by simp at h; subst h; simp
  | b :: r, 0, h => by simp
  | b :: r, j + 1, h => by
    have ih := all_take (p := p) r j (by simpa using h)
    by_cases hb : p b = true
    · simp [List.takeWhile_cons, hb, ih]
    · simp [List.takeWhile_cons, hb]
theorem tlen_le : ∀ r : List UInt8, tlen r ≤ r.length
  | [] => Nat.le_refl _
  | b :: r => by
    have h1 := (List.takeWhile_sublist (l := r) isWly).length_le
    have h2 := (List.takeWhile_sublist (l := r) isDig).length_le
    rw [tlen.eq_2, List.length_cons]
    by_cases hl : isLet b = true
    · rw [if_pos hl]; omega
    · rw [if_neg hl]
      by_cases hd : isDig b = true
      · rw [if_pos hd]; omega
      · rw [if_neg hd]
        cases r with
        | nil => simp only [sgnLen]; split <;> simp
        | cons c r => simp only [sgnLen]; simp only [List.length_cons]; (repeat' split) <;> omega
theorem good_tlen : ∀ (r : List UInt8), 0 < tlen r → goodL (r.take (tlen r)) = true
  | [], h => by simp [tlen] at h
  | b :: r, h => by
    by_cases hl : isLet b = true
    · have ht : tlen (b :: r) = (r.takeWhile isWly).length + 1 := by rw [tlen.eq_2, if_pos hl, Nat.add_comm]
      rw [ht, List.take_succ_cons]
      simp only [goodL, hl, if_true]
      exact (all_take r _ (List.takeWhile_sublist _).length_le).2 (Nat.le_refl _)
    · by_cases hd : isDig b = true
      · have ht : tlen (b :: r) = (r.takeWhile isDig).length + 1 := by rw [tlen.eq_2, if_neg hl, if_pos hd, Nat.add_comm]
        rw [ht, List.take_succ_cons]
        simp only [goodL, hl, hd, if_true]
        exact (all_take r _ (List.takeWhile_sublist _).length_le).2 (Nat.le_refl _)
      · cases r with
        | nil =>
          by_cases hs : isSgn b = true
          · simp [tlen, sgnLen, hl, hd, hs, goodL]
          · simp [tlen, sgnLen, hl, hd, hs] at h
        | cons c r =>
          by_cases h2 : twoL [b, c] = true
          · simp [tlen, sgnLen, hl, hd, h2, goodL]
          · by_cases hs : isSgn b = true
            · simp [tlen, sgnLen, hl, hd, h2, hs, goodL]
            · simp [tlen, sgnLen, hl, hd, h2, hs] at h
theorem bad_tlen : ∀ (r : List UInt8) (k : Nat), tlen r < k → k ≤ r.length → goodL (r.take k) = false
  | [], k, h, hk => by simp at hk; subst hk; simp [tlen] at h
  | b :: r, 0, h, hk => by omega
  | b :: r, k + 1, h, hk => by
    have hk' : k ≤ r.length := by simpa using hk
    rw [List.take_succ_cons]
    by_cases hl : isLet b = true
    · have ht : tlen (b :: r) = (r.takeWhile isWly).length + 1 := by rw [tlen.eq_2, if_pos hl, Nat.add_comm]
      simp only [goodL, hl, if_true]
      rw [← Bool.not_eq_true, all_take r k hk']; omega
    · by_cases hd : isDig b = true
      · have ht : tlen (b :: r) = (r.takeWhile isDig).length + 1 := by rw [tlen.eq_2, if_neg hl, if_pos hd, Nat.add_comm]
        simp only [goodL, hl, hd, if_true]
        rw [← Bool.not_eq_true]
        simp only [Bool.false_eq_true, if_false]
        rw [all_take r k hk']; omega
      · cases r with
        | nil =>
          simp at hk'; subst hk'
          by_cases hs : isSgn b = true
          · simp [tlen, sgnLen, hl, hd, hs] at h
          · simp [goodL, hl, hd, hs]
        | cons c r =>
          match k, hk', h with
          | 0, _, h =>
            by_cases hs : isSgn b = true
            · exfalso; simp only [tlen, sgnLen, hl, hd, hs, if_false, if_true] at h; revert h; simp; split <;> simp
            · simp [goodL, hl, hd, hs]
          | 1, _, h =>
            by_cases h2 : twoL [b, c] = true
            · simp [tlen, sgnLen, hl, hd, h2] at h
            · simp [goodL, hl, hd, h2]
          | k + 2, hk', _ =>
            simp only [List.take_succ_cons, goodL, hl, hd]
            cases e : twoL (b :: c :: r.take (k + 1)) with
            | false => simp
            | true =>
              have h9 := twoL_len e
              simp only [List.length_cons, List.length_take] at h9 hk'
              omega
theorem lastE_eq {s : Bytes} {a e : Nat} (ha : a ≤ e) (hg : e = a ∨ good (s.extract a e) = true) : ∀ n, e ≤ n → (∀ k, e < k → k ≤ n → good (s.extract a k) = false) → lastE s a n = e
  | 0, hn, _ => by simp [lastE]; omega
  | n + 1, hn, hb => by
    rw [lastE_succ]
    by_cases he : e = n + 1
    · rw [if_neg]
      · exact he.symm
      · rintro ⟨h1, h2⟩
        rcases hg with hg | hg
        · omega
        · rw [he] at hg; rw [hg] at h2; cases h2
    · rw [if_pos ⟨by omega, hb _ (by omega) (Nat.le_refl _)⟩]
      exact lastE_eq ha hg n (by omega) fun k h1 h2 => hb k h1 (by omega)
theorem L_ext (s : Bytes) (a e : Nat) : L (s.extract a e) = ((L s).drop a).take (e - a) := by
  unfold L
  simp [ByteArray.data_extract, Array.toList_extract, List.extract_eq_take_drop]
theorem lastE_tlen (s : Bytes) (a : Nat) (ha : a ≤ s.size) : lastE s a s.size = a + tlen ((L s).drop a) := by
  have hl := tlen_le ((L s).drop a)
  rw [List.length_drop, L_len] at hl
  refine lastE_eq (by omega) ?_ _ (by omega) ?_
  · by_cases h : tlen ((L s).drop a) = 0
    · left; omega
    · right
      rw [good_L, L_ext]
      have : a + tlen ((L s).drop a) - a = tlen ((L s).drop a) := by omega
      rw [this]
      exact good_tlen _ (by omega)
  · intro k h1 h2
    rw [good_L, L_ext]
    exact bad_tlen _ _ (by omega) (by rw [List.length_drop, L_len]; omega)
def kindL : List UInt8 → Int
  | [] => 0
  | b :: r => if isLet b then (if (r.takeWhile isWly).length < 16 then 1 else 0) else if isDig b then (if numOK (ofL (b :: r.takeWhile isDig)) then 2 else 0) else if tlen (b :: r) = 0 then 0 else 3
theorem take_while (p : UInt8 → Bool) (r : List UInt8) : r.take (r.takeWhile p).length = r.takeWhile p := (List.prefix_iff_eq_take.1 (List.takeWhile_prefix p)).symm
theorem all_while (p : UInt8 → Bool) : ∀ r : List UInt8, (r.takeWhile p).all p = true
  | [] => rfl
  | b :: r => by
    by_cases h : p b = true
    · rw [List.takeWhile_cons, if_pos h, List.all_cons, h, all_while p r]; rfl
    · rw [List.takeWhile_cons, if_neg h]; rfl
theorem size_ofL (l : List UInt8) : (ofL l).size = l.length := rfl
theorem kind_tlen : ∀ r : List UInt8, kindT (ofL (r.take (tlen r))) (decide (0 < tlen r)) = kindL r
  | [] => by decide
  | b :: r => by
    by_cases hl : isLet b = true
    · have hf := let_facts b hl
      have ht : tlen (b :: r) = (r.takeWhile isWly).length + 1 := by rw [tlen.eq_2, if_pos hl, Nat.add_comm]
      rw [ht, List.take_succ_cons, take_while]
      have hs : signB (ofL (b :: r.takeWhile isWly)) = false := by
        rw [signB_L, L_ofL]
        cases e : r.takeWhile isWly with
        | nil => exact hf.2.1
        | cons c q =>
          cases e2 : twoL (b :: c :: q) with
          | false => exact e2
          | true => exact absurd (twoL_first e2) (by simp [hf])
      have hd : allB (ofL (b :: r.takeWhile isWly)) digits = false := by
        unfold allB; rw [L_ofL]; simp [has_digits, hf]
      have hw : longB (ofL (b :: r.takeWhile isWly)) = true := by
        rw [longB_L, L_ofL]; simp only [hl, List.all_cons, hf, all_while]; rfl
      unfold kindT wordB
      rw [hs, hd, hw, size_ofL]
      by_cases hn : (r.takeWhile isWly).length < 16
      · have : (b :: r.takeWhile isWly).length ≤ 16 := by simp only [List.length_cons]; omega
        simp only [this]; simp [kindL, hl, hn]
      · have : ¬ (b :: r.takeWhile isWly).length ≤ 16 := by simp only [List.length_cons]; omega
        simp only [this]
        simp [kindL, hl, hn]
    · by_cases hd : isDig b = true
      · have hf := dig_facts b hd
        have ht : tlen (b :: r) = (r.takeWhile isDig).length + 1 := by rw [tlen.eq_2, if_neg hl, if_pos hd, Nat.add_comm]
        rw [ht, List.take_succ_cons, take_while]
        have hs : signB (ofL (b :: r.takeWhile isDig)) = false := by
          rw [signB_L, L_ofL]
          cases e : r.takeWhile isDig with
          | nil => exact hf.2.1
          | cons c q =>
            cases e2 : twoL (b :: c :: q) with
            | false => exact e2
            | true => exact absurd (twoL_first e2) (by simp [hf])
        have hdd : allB (ofL (b :: r.takeWhile isDig)) digits = true := by
          unfold allB; rw [L_ofL]; simp only [has_digits, List.all_cons, hd, all_while]; rfl
        have hw : longB (ofL (b :: r.takeWhile isDig)) = false := by
          rw [longB_L, L_ofL]; simp [hf]
        unfold kindT wordB
        rw [hs, hdd, hw]
        simp [kindL, hl, hd]
      · unfold kindL
        simp only [hl, hd, Bool.false_eq_true, if_false]
        have hlg : ∀ q, longB (ofL (b :: q)) = false := fun q => by rw [longB_L, L_ofL]; simp [hl]
        by_cases h0 : tlen (b :: r) = 0
        · rw [if_pos h0, h0]; simp only [List.take_zero]; decide
        · rw [if_neg h0]
          cases r with
          | nil =>
            by_cases hs : isSgn b = true
            · have ht : tlen [b] = 1 := by simp [tlen, sgnLen, hl, hd, hs]
              rw [ht]
              have : signB (ofL (List.take 1 [b])) = true := by rw [signB_L, L_ofL]; exact hs
              unfold kindT; rw [if_pos this]
            · simp [tlen, sgnLen, hl, hd, hs] at h0
          | cons c r =>
            by_cases h2 : twoL [b, c] = true
            · have ht : tlen (b :: c :: r) = 2 := by simp [tlen, sgnLen, hl, hd, h2]
              rw [ht]
              have : signB (ofL (List.take 2 (b :: c :: r))) = true := by rw [signB_L, L_ofL]; exact h2
              unfold kindT; rw [if_pos this]
            · by_cases hs : isSgn b = true
              · have ht : tlen (b :: c :: r) = 1 := by simp [tlen, sgnLen, hl, hd, h2, hs]
                rw [ht]
                have : signB (ofL (List.take 1 (b :: c :: r))) = true := by rw [signB_L, L_ofL]; exact hs
                unfold kindT; rw [if_pos this]
              · simp [tlen, sgnLen, hl, hd, h2, hs] at h0
def consT (t : Tok) (x : List Tok × Int × Int) : List Tok × Int × Int := if x.2.1 = 0 then (t :: x.1, 0, 0) else x
def nlen (r : List UInt8) : Nat := (r.takeWhile (fun b => !decide (b.toNat = 10))).length
def lexR : Nat → List UInt8 → Nat → List Tok × Int × Int
  | 0, _, _ => ([], 0, 0)
  | _ + 1, [], p => ([⟨4, ByteArray.empty, p⟩], 0, 0)
  | f + 1, b :: r, p => if b.toNat = 32 ∨ b.toNat = 9 ∨ b.toNat = 10 then lexR f r (p + 1)
    else if b.toNat = 35 then lexR f ((b :: r).drop (nlen (b :: r))) (p + nlen (b :: r))
    else if kindL (b :: r) = 0 then ([], 7, p)
    else consT ⟨kindL (b :: r), ofL ((b :: r).take (tlen (b :: r))), p⟩ (lexR f ((b :: r).drop (tlen (b :: r))) (p + tlen (b :: r)))
theorem ext_ofL (s : Bytes) (a k : Nat) : s.extract a (a + k) = ofL (((L s).drop a).take k) := L_inj (by rw [L_ext, L_ofL]; congr 1; omega)
def preT (acc : List Tok) (x : List Tok × Int × Int) : List Tok × Int × Int := if x.2.1 = 0 then (acc ++ x.1, 0, 0) else x
theorem preT_cons (acc : List Tok) (t : Tok) (x : List Tok × Int × Int) : preT acc (consT t x) = preT (acc ++ [t]) x := by
  unfold preT consT
  by_cases h : x.2.1 = 0
  · simp [h]
  · simp [h]
theorem kind_pos {r : List UInt8} (h : kindL r ≠ 0) : 0 < tlen r := by
  apply Nat.pos_of_ne_zero
  intro h0
  apply h
  rw [← kind_tlen, h0]; simp; decide
theorem toksF_lexR (s : Bytes) : ∀ (f a : Nat) (acc : List Tok), a ≤ s.size → s.size + 1 ≤ f + a → toksF s f a acc = preT acc (lexR f ((L s).drop a) a)
  | 0, a, acc, h1, h2 => by omega
  | f + 1, a, acc, h1, h2 => by
    unfold toksF
    cases hb : (L s)[a]? with
    | none =>
      have : s.size ≤ a := by rw [← L_len]; exact List.getElem?_eq_none_iff.1 hb
      have h3 : (L s).drop a = [] := List.drop_eq_nil_of_le (by rw [L_len]; exact this)
      have h4 : a = s.size := by omega
      rw [h3, h4]; rfl
    | some b =>
      obtain ⟨hlt, hb'⟩ := List.getElem?_eq_some_iff.1 hb
      have hd : (L s).drop a = b :: (L s).drop (a + 1) := by rw [List.drop_eq_getElem_cons hlt, hb']
      rw [L_len] at hlt
      dsimp only
      rw [lastE_tlen s a h1]
      have hk : kindT (s.extract a (a + tlen ((L s).drop a))) (decide (a < a + tlen ((L s).drop a))) = kindL ((L s).drop a) := by
        rw [ext_ofL, ← kind_tlen]
        congr 1
        rw [decide_eq_decide]; omega
      rw [hk, hd]
      unfold lexR
      by_cases hsp : b.toNat = 32 ∨ b.toNat = 9 ∨ b.toNat = 10
      · rw [if_pos hsp, if_pos hsp, toksF_lexR s f (a + 1) acc (by omega) (by omega)]
      · rw [if_neg hsp, if_neg hsp]
        by_cases hc : b.toNat = 35
        · rw [if_pos hc, if_pos hc]
          have hn := nlp_le (s := s) (k := a) h1
          have hn0 : nlp s a = a + nlen (b :: (L s).drop (a + 1)) := by unfold nlp nlen; rw [hd]
          have hgt : 0 < nlen (b :: (L s).drop (a + 1)) := by
            unfold nlen; rw [List.takeWhile_cons]; simp [hc]
          rw [hn0] at hn ⊢
          rw [toksF_lexR s f _ acc (by omega) (by omega), ← hd, List.drop_drop]
        · rw [if_neg hc, if_neg hc]
          by_cases h0 : kindL (b :: (L s).drop (a + 1)) = 0
          · rw [if_pos h0, if_pos h0]; rfl
          · rw [if_neg h0, if_neg h0]
            have hp := kind_pos h0
            have hl := tlen_le (b :: (L s).drop (a + 1))
            rw [← hd, List.length_drop, L_len, hd] at hl
            rw [toksF_lexR s f _ _ (by omega) (by omega), preT_cons, ext_ofL, hd, ← hd, List.drop_drop, hd]
theorem preT_nil (x : List Tok × Int × Int) (h : x.2.1 = 0 → x.2.2 = 0) : preT [] x = x := by
  obtain ⟨l, c, p⟩ := x
  unfold preT
  by_cases hc : c = 0
  · have := h hc; dsimp only at this ⊢; simp [hc, this]
  · simp [hc]
theorem lexR_ok : ∀ (f : Nat) (r : List UInt8) (p : Nat), (lexR f r p).2.1 = 0 → (lexR f r p).2.2 = 0
  | 0, _, _, _ => rfl
  | _ + 1, [], _, _ => rfl
  | f + 1, b :: r, p, h => by
    revert h
    unfold lexR consT
    split
    · exact lexR_ok _ _ _
    · split
      · exact lexR_ok _ _ _
      · split
        · intro h; cases h
        · split
          · exact fun _ => rfl
          · intro h; contradiction
def quick (s : Bytes) : List Tok × Int × Int := if 480 < s.size then ([], 2, 0) else lexR (s.size + 1) (L s) 0
theorem tokens_quick (s : Bytes) : tokens s = quick s := by
  unfold tokens quick
  split
  · rfl
  · rw [toksF_lexR s _ 0 [] (by omega) (by omega), preT_nil]
    · rfl
    · rw [List.drop_zero]; exact lexR_ok _ _ _
end Go.Proofs.Ytphjldhdnmoolaa.A
/- Words for the rows: what came in, seen by the abstract machine. -/
namespace Go.Proofs.Ytphjldhdnmoolaa.A
open Go Go.ChangeShapes Go.WideShapes Go.ChangeAt Go.RowKit Go.Joins
theorem own : ownKnob Try.prog.godebug = none := by kernel_rfl
theorem laidOut : laidOutB Try.prog = true := by kernel_rfl
def K0 (w : World) : K := ⟨[], [], fun b j => ∃ v, w.cell? ⟨b, j, none⟩ = some v⟩
def M0 : Mem := ⟨[], []⟩
theorem inv0 (w : World) : Inv (wr0 (K0 w) w) (K0 w) w M0 :=
  ⟨rfl, fun i j b h => by simp [K0] at h, fun o b x h => by simp [K0] at h, rfl, fun k r h => by simp [K0] at h, fun i j r r' h => by simp [K0] at h,
    fun b j h => ⟨by simp [K0], h⟩, fun b h => by simp [K0] at h, fun k r h => by simp [K0] at h, fun b h => .inr (.inr h)⟩
theorem calls_of_sim {f : FuncId} {args : List IV} {w : World} {vs : Array Value} (h : Sim f args M0 (fun r m' => r = .v (.bool true) ∧ m' = M0)) (hl : RelL (K0 w) w args vs.toList) :
    Calls Try.prog f vs w fun e w' => e = .returned (.bool true) ∧ Below w.heap.size w w' := by
  refine (h (K0 w) w vs (inv0 w) hl).mono ?_
  rintro e w' ⟨κ', v, r, m', rfl, hev, hi, hr, rfl, rfl⟩
  refine ⟨?_, hev.os, hev.tape, hev.output, hev.size, fun k hk => (hev.keep k hk ?_).1⟩
  · simp only [Rel] at hr; rw [hr]
  · rintro (h | ⟨k, r, h, _⟩ | h)
    · simp [K0] at h
    · simp [K0] at h
    · omega
theorem places_lt {H : Type} {enc : TypeId × Value → H} {P : Program} {W : World} {base : Nat} {spare : Nat → Bool} {held : Bool} {t : TypeId} {v : Value} {d : DataW H} {p : List MemPlace} (h : DataW.Trod enc P W base spare held t v d p) : ∀ x ∈ p, x.block < W.heap.size := by
  obtain ⟨m, hm⟩ := h
  exact DataW.trod_lt m _ _ _ hm
theorem relC_cells {w : World} {b : Nat} : ∀ {l : List Value} {off : Nat}, (∀ i, i < l.length → w.cell? ⟨b, off + i, none⟩ = l[i]?) → RelC (K0 w) w b off (l.map .v)
  | [], _, _ => by simp [RelC]
  | x :: l, off, h => by
    have h0 := h 0 (by simp)
    simp only [List.map_cons, RelC]
    refine ⟨⟨x, by simpa using h0⟩, ⟨x, by simpa using h0, rfl⟩, relC_cells fun i hi => ?_⟩
    have h1 := h (i + 1) (by simpa using hi)
    simpa [Nat.add_assoc, Nat.add_comm 1 i] using h1
/-- A slice of whole numbers that came in. -/
theorem rel_ints {H : Type} {enc : TypeId × Value → H} {P : Program} {W : World} {t e : TypeId} {k : IntKind} {fuel : Nat} {cs : List Value} {x : DataW H × List MemPlace} {ts : List TypeId} {ds : List (DataW H)} {j : Nat} (hu : P.underlying t = some (.slice e)) (he : P.underlying e = some (.int k)) (hc : P.cellsOf e = 1)
    (h : DataW.trod enc P W 0 (fun _ => true) true fuel t cs = some x) (hsz : (DataW.weightsEach P ts ds).all (· ≤ reachBytes) = true) (ht : ts[j]? = some t) (hd : ds[j]? = some x.1) {B : Nat} (hB : P.bytesOf e = B) :
    ∃ (A : Option Addr) (l : List Int) (c : Nat), cs = [.slice A l.length c] ∧ l.length ≤ c ∧ Rel (K0 W) W (.sl .sh l.length (l.map (IV.v <| .int k ·))) (.slice A l.length c) ∧ (∀ n ∈ l, (Lit.int k n).wf = true) ∧ l.length * B ≤ 140737488351232 := by
  rcases open_ints hu he hc h with ⟨rfl, rfl⟩ | ⟨a, len, cap, zs, rfl, _, hl, hm, hz, hx, hcell, hwz⟩
  · exact ⟨none, [], 0, rfl, Nat.le_refl _, ⟨none, 0, rfl, Nat.le_refl _, trivial, .inl rfl⟩, (fun n hn => by cases hn), by simp⟩
  · have hz' : zs.length = cap := by simpa using hz
    have hlen : (zs.take len).length = len := by rw [List.length_take]; omega
    have hsize := sized_slice hsz ht (elems := lits k (zs.take len)) (spare := lits k (zs.drop len)) (by rw [hd, hx]) hu
    rw [hB] at hsize
    have h1 : (lits (H := H) k (zs.take len)).length + (lits (H := H) k (zs.drop len)).length = zs.length := by
      simp [lits]
      omega
    rw [h1] at hsize
    refine ⟨some a, zs.take len, cap, by rw [hlen], by rw [hlen]; omega, ⟨some a, cap, rfl, by rw [hlen]; omega, trivial, ?_⟩, fun n hn => hwz n (List.mem_of_mem_take hn), by rw [hlen]; exact Nat.le_trans (Nat.mul_le_mul_right _ (by omega)) hsize⟩
    by_cases h0 : len = 0
    · left; subst h0; rfl
    · right
      have hg : ∀ i, i < (zs.take len).length → W.cell? (a.add i) = ((zs.take len).map (Value.int k))[i]? := by
        intro i hi
        rw [hlen] at hi
        rw [hcell i (by omega), List.getElem?_map, List.getElem?_take_of_lt hi, List.getElem?_eq_getElem (by omega), List.getD_eq_getElem?_getD, List.getElem?_eq_getElem (by omega)]; rfl
      have hsp : a.spot = none := by
        have := hg 0 (by rw [hlen]; omega)
        cases hs : a.spot with
        | none => rfl
        | some q =>
          exfalso
          have h2 := hcell 0 (by omega)
          unfold World.cell? at h2
          split at h2
          · have : (a.add 0).spot = some q := hs
            rw [this] at h2; simp at h2
          · cases h2
      obtain ⟨b, off, sp⟩ := a
      subst hsp
      refine ⟨b, off, rfl, ?_⟩
      have := relC_cells (w := W) (b := b) (off := off) (l := (zs.take len).map (Value.int k)) (fun i hi => by rw [List.length_map] at hi; have h5 := hg i hi; by_cases e0 : i = 0 <;> simpa [Addr.add, e0] using h5)
      rw [List.map_map] at this
      exact this
theorem relL_nil (κ : K) (w : World) : RelL κ w [] [] := rfl
theorem relL_cons {κ : K} {w : World} {i : IV} {v : Value} {l : List IV} {vs : List Value} (h : Rel κ w i v) (g : RelL κ w l vs) : RelL κ w (i :: l) (v :: vs) := ⟨v, vs, rfl, h, g⟩
theorem rel_v (κ : K) (w : World) (x : Value) : Rel κ w (.v x) x := rfl
theorem int_wf {x : Int} (h : (Lit.int .i64 x).wf = true) : -9223372036854775808 ≤ x ∧ x ≤ 9223372036854775807 := by
  simp [Lit.wf, IntKind.min, IntKind.max, IntKind.signed, IntKind.bits] at h
  omega
end Go.Proofs.Ytphjldhdnmoolaa.A
