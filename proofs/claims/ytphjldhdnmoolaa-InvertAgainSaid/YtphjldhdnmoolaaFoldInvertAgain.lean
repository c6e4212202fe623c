/- For every input InvertAgain answers true: an operation turned twice does what its statements do. -/
import Derived.Test.YtphjldhdnmoolaaJBase6
import Derived.Test.YtphjldhdnmoolaaRows
set_option linter.unusedVariables false
set_option linter.unusedSimpArgs false
/- The walks of some functions over the abstract machine. -/
namespace Go.Proofs.Ytphjldhdnmoolaa.A
open Go
/-! what only reads changes no cell -/
theorem errE_ne {e : Int} (h : e ≠ 0) : errE e = .iface 76 (ii e) := by unfold errE; rw [if_neg h]
set_option maxRecDepth 100000 in
set_option maxHeartbeats 4000000 in
theorem ereads_law (m : Mem) (s : Bytes) (cl al : List Int) (hcl : cl.length < 4000000000000000000) : Sim 15 [.agg [ss s, .sl .sh cl.length (cl.map (IV.v <| .int .i64 ·)), .sl .sh al.length (al.map (IV.v <| .int .i64 ·))]] m (fun r m' => r = bb true ∧ m' = m) := by
  have f60 := filled_len cl
  have hfl := fun m => filled_sim m cl hcl
  generalize filledP cl = cs at f60 hfl
  have hp := fun m => parse_any m s
  refine Sim.ofS 82 [.tmp 2] Try.func15 rfl rfl rfl (by simp) fun wr => ?_
  simp only [go_sem, Nat.reduceEqDiff, Nat.reduceBEq, Int.reduceToNat, Int.reduceLT, Int.reduceLE, Int.reduceEq, Nat.reduceLeDiff, Nat.reduceLT, Nat.reduceMul, Nat.reduceAdd, String.reduceEq]
  refine TS.seq (TS.of [1] fun Q hQ => ?_)
  simp only [go_sem, Nat.reduceEqDiff, Nat.reduceBEq, Int.reduceToNat, Int.reduceLT, Int.reduceLE, Int.reduceEq, Nat.reduceLeDiff, Nat.reduceLT, Nat.reduceMul, Nat.reduceAdd, String.reduceEq]
  refine hQ .normal _ ?_; clear hQ Q
  refine TS.seq (TS.of [] fun Q hQ => ?_)
  simp only [go_sem, Nat.reduceEqDiff, Nat.reduceBEq, Int.reduceToNat, Int.reduceLT, Int.reduceLE, Int.reduceEq, Nat.reduceLeDiff, Nat.reduceLT, Nat.reduceMul, Nat.reduceAdd, String.reduceEq]
  refine cal_eq (alive9_sim _) ?_
  simp only [go_sem, Nat.reduceEqDiff, Nat.reduceBEq, Int.reduceToNat, Int.reduceLT, Int.reduceLE, Int.reduceEq, Nat.reduceLeDiff, Nat.reduceLT, Nat.reduceMul, Nat.reduceAdd, String.reduceEq]
  refine hQ .normal _ ?_; clear hQ Q
  by_cases h : (parse s).2.1 = 0
  rotate_left
  · refine TS.seq (TS.of [1] fun Q hQ => ?_)
    simp only [go_sem, Nat.reduceEqDiff, Nat.reduceBEq, Int.reduceToNat, Int.reduceLT, Int.reduceLE, Int.reduceEq, Nat.reduceLeDiff, Nat.reduceLT, Nat.reduceMul, Nat.reduceAdd, String.reduceEq]
    refine cal_eq (hp _) ?_
    simp only [go_sem, Nat.reduceEqDiff, Nat.reduceBEq, Int.reduceToNat, Int.reduceLT, Int.reduceLE, Int.reduceEq, Nat.reduceLeDiff, Nat.reduceLT, Nat.reduceMul, Nat.reduceAdd, String.reduceEq, encD]
    refine hQ .normal _ ?_; clear hQ Q
    refine TS.of [1] fun Q hQ => ?_
    simp only [go_sem, Nat.reduceEqDiff, Nat.reduceBEq, Int.reduceToNat, Int.reduceLT, Int.reduceLE, Int.reduceEq, Nat.reduceLeDiff, Nat.reduceLT, Nat.reduceMul, Nat.reduceAdd, String.reduceEq, h]
    refine hQ .ret _ ?_; clear hQ Q; refine post_ret _ _ (bb true) ?_ ?_ (DropW.tail0 _ rfl) ⟨rfl, rfl⟩
    · simp only [go_sem, Nat.reduceEqDiff, Nat.reduceBEq, Int.reduceToNat, Int.reduceLT, Int.reduceLE, Int.reduceEq, Nat.reduceLeDiff, Nat.reduceLT, Nat.reduceMul, Nat.reduceAdd, String.reduceEq]
    · rfl
  obtain ⟨r, hr, hr1, hr2⟩ := reads_run (parse_fit h) (parse_ok h) cs al f60
  have hrc := fun m => rcheck_sim m (parse s).1 (parse_ok h) (fits_arg _ (parse_fit h).body)
  have hrun := fun m => parse_run h m 5 cs f60 al r hr
  have hmd : (rcheck (parse s).1).2.1 = 0 → (rcheck (parse s).1).1.mode = rMode (parse s).1 := fun h0 => by
    rw [(rcheck_fine (parse_fit h) (parse_ok h) h0).1]
  rw [h] at hp
  generalize (parse s).2.2 = pl at hp
  generalize (parse s).1 = d at *
  clear h hr
  generalize rMode d = md at *
  generalize rcheck d = X at *
  obtain ⟨⟨i1, i2, i3, i4⟩, c, a⟩ := X
  dsimp only at hmd hr1 hr2
  obtain ⟨rl, rc, rn, re⟩ := r
  dsimp only at hr2
  refine TS.seq (TS.of [1] fun Q hQ => ?_)
  simp only [go_sem, Nat.reduceEqDiff, Nat.reduceBEq, Int.reduceToNat, Int.reduceLT, Int.reduceLE, Int.reduceEq, Nat.reduceLeDiff, Nat.reduceLT, Nat.reduceMul, Nat.reduceAdd, String.reduceEq]
  refine cal_eq (hp _) ?_
  simp only [go_sem, Nat.reduceEqDiff, Nat.reduceBEq, Int.reduceToNat, Int.reduceLT, Int.reduceLE, Int.reduceEq, Nat.reduceLeDiff, Nat.reduceLT, Nat.reduceMul, Nat.reduceAdd, String.reduceEq, encD]
  refine hQ .normal _ ?_; clear hQ Q
  refine TS.seq (TS.of [1] fun Q hQ => ?_)
  simp only [go_sem, Nat.reduceEqDiff, Nat.reduceBEq, Int.reduceToNat, Int.reduceLT, Int.reduceLE, Int.reduceEq, Nat.reduceLeDiff, Nat.reduceLT, Nat.reduceMul, Nat.reduceAdd, String.reduceEq]
  refine hQ .normal _ ?_; clear hQ Q
  refine TS.seq (TS.of [1] fun Q hQ => ?_)
  simp only [go_sem, Nat.reduceEqDiff, Nat.reduceBEq, Int.reduceToNat, Int.reduceLT, Int.reduceLE, Int.reduceEq, Nat.reduceLeDiff, Nat.reduceLT, Nat.reduceMul, Nat.reduceAdd, String.reduceEq, encD]
  refine cal_eq (hrc _) ?_
  simp only [go_sem, Nat.reduceEqDiff, Nat.reduceBEq, Int.reduceToNat, Int.reduceLT, Int.reduceLE, Int.reduceEq, Nat.reduceLeDiff, Nat.reduceLT, Nat.reduceMul, Nat.reduceAdd, String.reduceEq]
  refine hQ .normal _ ?_; clear hQ Q
  refine TS.seq (TS.of [1] fun Q hQ => ?_)
  simp only [go_sem, Nat.reduceEqDiff, Nat.reduceBEq, Int.reduceToNat, Int.reduceLT, Int.reduceLE, Int.reduceEq, Nat.reduceLeDiff, Nat.reduceLT, Nat.reduceMul, Nat.reduceAdd, String.reduceEq]
  refine cal_eq (hfl _) ?_
  simp only [go_sem, Nat.reduceEqDiff, Nat.reduceBEq, Int.reduceToNat, Int.reduceLT, Int.reduceLE, Int.reduceEq, Nat.reduceLeDiff, Nat.reduceLT, Nat.reduceMul, Nat.reduceAdd, String.reduceEq, ints_one, ints_sh, ml60 f60]
  refine hQ .normal _ ?_; clear hQ Q
  by_cases hc : c = 0
  rotate_left
  · have hrr := hr1 hc
    injection hrr with e1 e2 e3 e4
    subst e1 e2 e3 e4
    refine TS.seq (TS.of [1] fun Q hQ => ?_)
    simp only [go_sem, Nat.reduceEqDiff, Nat.reduceBEq, Int.reduceToNat, Int.reduceLT, Int.reduceLE, Int.reduceEq, Nat.reduceLeDiff, Nat.reduceLT, Nat.reduceMul, Nat.reduceAdd, String.reduceEq, encD, List.append_nil, le60 f60, tk60 f60, ints_sh]
    refine cal_eq (hrun _) ?_
    simp only [go_sem, Nat.reduceEqDiff, Nat.reduceBEq, Int.reduceToNat, Int.reduceLT, Int.reduceLE, Int.reduceEq, Nat.reduceLeDiff, Nat.reduceLT, Nat.reduceMul, Nat.reduceAdd, String.reduceEq, ints_one, ints_sh, ml60 z60]
    refine hQ .normal _ ?_; clear hQ Q
    refine TS.of [1] fun Q hQ => ?_
    simp only [go_sem, Nat.reduceEqDiff, Nat.reduceBEq, Int.reduceToNat, Int.reduceLT, Int.reduceLE, Int.reduceEq, Nat.reduceLeDiff, Nat.reduceLT, Nat.reduceMul, Nat.reduceAdd, String.reduceEq, hc, zero_page, errE_ne (show (13 : Int) ≠ 0 by decide), List.append_nil, ints_pg, z60, le60 z60, tk60 z60, ints_sh]
    refine hQ .ret _ ?_; clear hQ Q; refine post_ret _ _ (bb true) ?_ rfl (DropW.tail0 _ rfl) ⟨rfl, rfl⟩
    simp only [go_sem, Nat.reduceEqDiff, Nat.reduceBEq, Int.reduceToNat, Int.reduceLT, Int.reduceLE, Int.reduceEq, Nat.reduceLeDiff, Nat.reduceLT, Nat.reduceMul, Nat.reduceAdd, String.reduceEq]
  subst hc
  rcases hr2 rfl with hrr | hrr | ⟨rfl, rfl, q1, q2, rc60⟩
  · injection hrr with e1 e2 e3 e4
    subst e1 e2 e3 e4
    refine TS.seq (TS.of [1] fun Q hQ => ?_)
    simp only [go_sem, Nat.reduceEqDiff, Nat.reduceBEq, Int.reduceToNat, Int.reduceLT, Int.reduceLE, Int.reduceEq, Nat.reduceLeDiff, Nat.reduceLT, Nat.reduceMul, Nat.reduceAdd, String.reduceEq, encD, List.append_nil, le60 f60, tk60 f60, ints_sh]
    refine cal_eq (hrun _) ?_
    simp only [go_sem, Nat.reduceEqDiff, Nat.reduceBEq, Int.reduceToNat, Int.reduceLT, Int.reduceLE, Int.reduceEq, Nat.reduceLeDiff, Nat.reduceLT, Nat.reduceMul, Nat.reduceAdd, String.reduceEq, ints_one, ints_sh, ml60 z60]
    refine hQ .normal _ ?_; clear hQ Q
    refine TS.of [1] fun Q hQ => ?_
    simp only [go_sem, Nat.reduceEqDiff, Nat.reduceBEq, Int.reduceToNat, Int.reduceLT, Int.reduceLE, Int.reduceEq, Nat.reduceLeDiff, Nat.reduceLT, Nat.reduceMul, Nat.reduceAdd, String.reduceEq, zero_page, errE_ne (show (2 : Int) ≠ 0 by decide), List.append_nil, ints_pg, z60, le60 z60, tk60 z60, ints_sh]
    refine hQ .ret _ ?_; clear hQ Q; refine post_ret _ _ (bb true) ?_ rfl (DropW.tail0 _ rfl) ⟨rfl, rfl⟩
    simp only [go_sem, Nat.reduceEqDiff, Nat.reduceBEq, Int.reduceToNat, Int.reduceLT, Int.reduceLE, Int.reduceEq, Nat.reduceLeDiff, Nat.reduceLT, Nat.reduceMul, Nat.reduceAdd, String.reduceEq]
  · injection hrr with e1 e2 e3 e4
    subst e1 e2 e3 e4
    refine TS.seq (TS.of [1] fun Q hQ => ?_)
    simp only [go_sem, Nat.reduceEqDiff, Nat.reduceBEq, Int.reduceToNat, Int.reduceLT, Int.reduceLE, Int.reduceEq, Nat.reduceLeDiff, Nat.reduceLT, Nat.reduceMul, Nat.reduceAdd, String.reduceEq, encD, List.append_nil, le60 f60, tk60 f60, ints_sh]
    refine cal_eq (hrun _) ?_
    simp only [go_sem, Nat.reduceEqDiff, Nat.reduceBEq, Int.reduceToNat, Int.reduceLT, Int.reduceLE, Int.reduceEq, Nat.reduceLeDiff, Nat.reduceLT, Nat.reduceMul, Nat.reduceAdd, String.reduceEq, ints_one, ints_sh, ml60 z60]
    refine hQ .normal _ ?_; clear hQ Q
    refine TS.of [1] fun Q hQ => ?_
    simp only [go_sem, Nat.reduceEqDiff, Nat.reduceBEq, Int.reduceToNat, Int.reduceLT, Int.reduceLE, Int.reduceEq, Nat.reduceLeDiff, Nat.reduceLT, Nat.reduceMul, Nat.reduceAdd, String.reduceEq, zero_page, errE_ne (show (12 : Int) ≠ 0 by decide), List.append_nil, ints_pg, z60, le60 z60, tk60 z60, ints_sh]
    refine hQ .ret _ ?_; clear hQ Q; refine post_ret _ _ (bb true) ?_ rfl (DropW.tail0 _ rfl) ⟨rfl, rfl⟩
    simp only [go_sem, Nat.reduceEqDiff, Nat.reduceBEq, Int.reduceToNat, Int.reduceLT, Int.reduceLE, Int.reduceEq, Nat.reduceLeDiff, Nat.reduceLT, Nat.reduceMul, Nat.reduceAdd, String.reduceEq]
  have hi1 : i1 = md := hmd rfl
  subst hi1
  refine TS.seq (TS.of [1] fun Q hQ => ?_)
  simp only [go_sem, Nat.reduceEqDiff, Nat.reduceBEq, Int.reduceToNat, Int.reduceLT, Int.reduceLE, Int.reduceEq, Nat.reduceLeDiff, Nat.reduceLT, Nat.reduceMul, Nat.reduceAdd, String.reduceEq, encD, List.append_nil, le60 f60, tk60 f60, ints_sh]
  refine cal_eq (hrun _) ?_
  simp only [go_sem, Nat.reduceEqDiff, Nat.reduceBEq, Int.reduceToNat, Int.reduceLT, Int.reduceLE, Int.reduceEq, Nat.reduceLeDiff, Nat.reduceLT, Nat.reduceMul, Nat.reduceAdd, String.reduceEq, ints_one, ints_sh, ml60 rc60]
  refine hQ .normal _ ?_; clear hQ Q
  refine TS.seq (TS.of [1] fun Q hQ => ?_)
  simp only [go_sem, Nat.reduceEqDiff, Nat.reduceBEq, Int.reduceToNat, Int.reduceLT, Int.reduceLE, Int.reduceEq, Nat.reduceLeDiff, Nat.reduceLT, Nat.reduceMul, Nat.reduceAdd, String.reduceEq, errE_0]
  refine hQ .normal _ ?_; clear hQ Q
  have hg0 : (d.give = [] ∧ rn = 0 ∧ ¬ (0 : Int) < (d.give.length : Int)) ∨ (0 : Int) < (d.give.length : Int) := by
    cases hg : d.give with
    | nil => exact .inl ⟨rfl, q2 hg, by decide⟩
    | cons x l => right; simp
  by_cases hmd1 : i1 = 1
  · obtain rfl := q1 hmd1
    subst hmd1
    rcases hg0 with ⟨hg1, rfl, hg2⟩ | hg2
    · refine TS.of [1] fun Q hQ => ?_
      simp only [go_sem, Nat.reduceEqDiff, Nat.reduceBEq, Int.reduceToNat, Int.reduceLT, Int.reduceLE, Int.reduceEq, Nat.reduceLeDiff, Nat.reduceLT, Nat.reduceMul, Nat.reduceAdd, String.reduceEq, eq_false hg2, List.append_nil, ints_pg, f60, le60 f60, tk60 f60, ints_sh]
      refine hQ .ret _ ?_; clear hQ Q; refine post_ret _ _ (bb true) ?_ rfl (DropW.tail0 _ rfl) ⟨rfl, rfl⟩
      simp only [go_sem, Nat.reduceEqDiff, Nat.reduceBEq, Int.reduceToNat, Int.reduceLT, Int.reduceLE, Int.reduceEq, Nat.reduceLeDiff, Nat.reduceLT, Nat.reduceMul, Nat.reduceAdd, String.reduceEq]
    · refine TS.of [1] fun Q hQ => ?_
      simp only [go_sem, Nat.reduceEqDiff, Nat.reduceBEq, Int.reduceToNat, Int.reduceLT, Int.reduceLE, Int.reduceEq, Nat.reduceLeDiff, Nat.reduceLT, Nat.reduceMul, Nat.reduceAdd, String.reduceEq, eq_true hg2, List.append_nil, ints_pg, f60, le60 f60, tk60 f60, ints_sh]
      refine hQ .ret _ ?_; clear hQ Q; refine post_ret _ _ (bb true) ?_ rfl (DropW.tail0 _ rfl) ⟨rfl, rfl⟩
      simp only [go_sem, Nat.reduceEqDiff, Nat.reduceBEq, Int.reduceToNat, Int.reduceLT, Int.reduceLE, Int.reduceEq, Nat.reduceLeDiff, Nat.reduceLT, Nat.reduceMul, Nat.reduceAdd, String.reduceEq]
  · rcases hg0 with ⟨hg1, rfl, hg2⟩ | hg2
    · refine TS.of [1] fun Q hQ => ?_
      simp only [go_sem, Nat.reduceEqDiff, Nat.reduceBEq, Int.reduceToNat, Int.reduceLT, Int.reduceLE, Int.reduceEq, Nat.reduceLeDiff, Nat.reduceLT, Nat.reduceMul, Nat.reduceAdd, String.reduceEq, eq_false hmd1, eq_false hg2, List.append_nil, ints_pg, f60, le60 f60, tk60 f60, ints_sh]
      refine hQ .ret _ ?_; clear hQ Q; refine post_ret _ _ (bb true) ?_ rfl (DropW.tail0 _ rfl) ⟨rfl, rfl⟩
      simp only [go_sem, Nat.reduceEqDiff, Nat.reduceBEq, Int.reduceToNat, Int.reduceLT, Int.reduceLE, Int.reduceEq, Nat.reduceLeDiff, Nat.reduceLT, Nat.reduceMul, Nat.reduceAdd, String.reduceEq]
    · refine TS.of [1] fun Q hQ => ?_
      simp only [go_sem, Nat.reduceEqDiff, Nat.reduceBEq, Int.reduceToNat, Int.reduceLT, Int.reduceLE, Int.reduceEq, Nat.reduceLeDiff, Nat.reduceLT, Nat.reduceMul, Nat.reduceAdd, String.reduceEq, eq_false hmd1, eq_true hg2, List.append_nil, ints_pg, f60, le60 f60, tk60 f60, ints_sh]
      refine hQ .ret _ ?_; clear hQ Q; refine post_ret _ _ (bb true) ?_ rfl (DropW.tail0 _ rfl) ⟨rfl, rfl⟩
      simp only [go_sem, Nat.reduceEqDiff, Nat.reduceBEq, Int.reduceToNat, Int.reduceLT, Int.reduceLE, Int.reduceEq, Nat.reduceLeDiff, Nat.reduceLT, Nat.reduceMul, Nat.reduceAdd, String.reduceEq]
end Go.Proofs.Ytphjldhdnmoolaa.A
/- The walks of some functions over the abstract machine. -/
namespace Go.Proofs.Ytphjldhdnmoolaa.A
open Go
/-! operations that add, in either order -/
theorem fillK_ok {l : List Int} (h0 : ∀ n ∈ l, -9223372036854775808 ≤ n) (h1 : ∀ n ∈ l, n < 9223372036854775808) : ∀ k, ∀ x ∈ fillK l k, -9223372036854775808 ≤ x ∧ x < 9223372036854775808
  | 0, x, hx => by
    have : x = 0 := by rw [fillK, zeros] at hx; exact (List.mem_replicate.1 hx).2
    omega
  | k + 1, x, hx => by
    rw [fillK] at hx
    split at hx
    · exact fillK_ok h0 h1 k x hx
    · rcases List.mem_or_eq_of_mem_set hx with h | h
      · exact fillK_ok h0 h1 k x h
      · rename_i hl
        have hlt : k % l.length < l.length := Nat.mod_lt _ (List.length_pos_iff.2 hl)
        have : x ∈ l := by rw [h, List.getD_eq_getElem?_getD, List.getElem?_eq_getElem hlt]; exact List.getElem_mem hlt
        exact ⟨h0 x this, h1 x this⟩
theorem filled_ok {l : List Int} (h0 : ∀ n ∈ l, -9223372036854775808 ≤ n) (h1 : ∀ n ∈ l, n < 9223372036854775808) : okC (filledP l) := by
  refine ⟨filled_len l, fun i hi => ?_⟩
  have hl : i < (filledP l).length := by rw [filled_len]; exact hi
  rw [List.getD_eq_getElem?_getD, List.getElem?_eq_getElem hl]
  exact fillK_ok h0 h1 60 _ (List.getElem_mem hl)
set_option maxRecDepth 100000 in
set_option maxHeartbeats 4000000 in
theorem eadds_law (m : Mem) (s1 : Bytes) (cl al : List Int) (s2 : Bytes) (cl2 bl : List Int) (hcl : cl.length < 4000000000000000000) (h0 : ∀ n ∈ cl, -9223372036854775808 ≤ n) (h1 : ∀ n ∈ cl, n < 9223372036854775808) : Sim 16 [.agg [ss s1, .sl .sh cl.length (cl.map (IV.v <| .int .i64 ·)), .sl .sh al.length (al.map (IV.v <| .int .i64 ·))], .agg [ss s2, .sl .sh cl2.length (cl2.map (IV.v <| .int .i64 ·)), .sl .sh bl.length (bl.map (IV.v <| .int .i64 ·))]] m (fun r m' => r = bb true ∧ m' = m) := by
  have f60 := filled_len cl
  have fok := filled_ok h0 h1
  have hfl := fun m => filled_sim m cl hcl
  generalize filledP cl = cs at f60 hfl fok
  have hp1 := fun m => parse_any m s1
  have hp2 := fun m => parse_any m s2
  refine Sim.ofS 178 [.tmp 4] Try.func16 rfl rfl rfl (by simp) fun wr => ?_
  simp only [go_sem, Nat.reduceEqDiff, Nat.reduceBEq, Int.reduceToNat, Int.reduceLT, Int.reduceLE, Int.reduceEq, Nat.reduceLeDiff, Nat.reduceLT, Nat.reduceMul, Nat.reduceAdd, String.reduceEq]
  refine TS.seq (TS.of [2, 3] fun Q hQ => ?_)
  simp only [go_sem, Nat.reduceEqDiff, Nat.reduceBEq, Int.reduceToNat, Int.reduceLT, Int.reduceLE, Int.reduceEq, Nat.reduceLeDiff, Nat.reduceLT, Nat.reduceMul, Nat.reduceAdd, String.reduceEq]
  refine hQ .normal _ ?_; clear hQ Q
  refine TS.seq (TS.of [] fun Q hQ => ?_)
  simp only [go_sem, Nat.reduceEqDiff, Nat.reduceBEq, Int.reduceToNat, Int.reduceLT, Int.reduceLE, Int.reduceEq, Nat.reduceLeDiff, Nat.reduceLT, Nat.reduceMul, Nat.reduceAdd, String.reduceEq]
  refine cal_eq (alive9_sim _) ?_
  simp only [go_sem, Nat.reduceEqDiff, Nat.reduceBEq, Int.reduceToNat, Int.reduceLT, Int.reduceLE, Int.reduceEq, Nat.reduceLeDiff, Nat.reduceLT, Nat.reduceMul, Nat.reduceAdd, String.reduceEq]
  refine hQ .normal _ ?_; clear hQ Q
  refine TS.seq (TS.of [2, 3] fun Q hQ => ?_)
  simp only [go_sem, Nat.reduceEqDiff, Nat.reduceBEq, Int.reduceToNat, Int.reduceLT, Int.reduceLE, Int.reduceEq, Nat.reduceLeDiff, Nat.reduceLT, Nat.reduceMul, Nat.reduceAdd, String.reduceEq]
  refine cal_eq (hp1 _) ?_
  simp only [go_sem, Nat.reduceEqDiff, Nat.reduceBEq, Int.reduceToNat, Int.reduceLT, Int.reduceLE, Int.reduceEq, Nat.reduceLeDiff, Nat.reduceLT, Nat.reduceMul, Nat.reduceAdd, String.reduceEq, encD]
  refine hQ .normal _ ?_; clear hQ Q
  refine TS.seq (TS.of [2, 3] fun Q hQ => ?_)
  simp only [go_sem, Nat.reduceEqDiff, Nat.reduceBEq, Int.reduceToNat, Int.reduceLT, Int.reduceLE, Int.reduceEq, Nat.reduceLeDiff, Nat.reduceLT, Nat.reduceMul, Nat.reduceAdd, String.reduceEq]
  refine cal_eq (hp2 _) ?_
  simp only [go_sem, Nat.reduceEqDiff, Nat.reduceBEq, Int.reduceToNat, Int.reduceLT, Int.reduceLE, Int.reduceEq, Nat.reduceLeDiff, Nat.reduceLT, Nat.reduceMul, Nat.reduceAdd, String.reduceEq, encD]
  refine hQ .normal _ ?_; clear hQ Q
  by_cases b1 : (parse s1).2.1 = 0
  rotate_left
  · refine TS.of [] fun Q hQ => ?_
    simp only [go_sem, Nat.reduceEqDiff, Nat.reduceBEq, Int.reduceToNat, Int.reduceLT, Int.reduceLE, Int.reduceEq, Nat.reduceLeDiff, Nat.reduceLT, Nat.reduceMul, Nat.reduceAdd, String.reduceEq, eq_false b1]
    refine hQ .ret _ ?_; clear hQ Q; refine post_ret _ _ (bb true) ?_ ?_ (DropW.tail0 _ rfl) ⟨rfl, rfl⟩
    · simp only [go_sem, Nat.reduceEqDiff, Nat.reduceBEq, Int.reduceToNat, Int.reduceLT, Int.reduceLE, Int.reduceEq, Nat.reduceLeDiff, Nat.reduceLT, Nat.reduceMul, Nat.reduceAdd, String.reduceEq]
    · rfl
  by_cases b2 : (parse s2).2.1 = 0
  rotate_left
  · refine TS.of [] fun Q hQ => ?_
    simp only [go_sem, Nat.reduceEqDiff, Nat.reduceBEq, Int.reduceToNat, Int.reduceLT, Int.reduceLE, Int.reduceEq, Nat.reduceLeDiff, Nat.reduceLT, Nat.reduceMul, Nat.reduceAdd, String.reduceEq, eq_true b1, eq_false b2]
    refine hQ .ret _ ?_; clear hQ Q; refine post_ret _ _ (bb true) ?_ ?_ (DropW.tail0 _ rfl) ⟨rfl, rfl⟩
    · simp only [go_sem, Nat.reduceEqDiff, Nat.reduceBEq, Int.reduceToNat, Int.reduceLT, Int.reduceLE, Int.reduceEq, Nat.reduceLeDiff, Nat.reduceLT, Nat.reduceMul, Nat.reduceAdd, String.reduceEq]
    · rfl
  have hc1 := fun m => rcheck_sim m (parse s1).1 (parse_ok b1) (fits_arg _ (parse_fit b1).body)
  have hc2 := fun m => rcheck_sim m (parse s2).1 (parse_ok b2) (fits_arg _ (parse_fit b2).body)
  have run1 := fun cs h60 r hr m => parse_run b1 m 5 cs h60 al r hr
  have run2 := fun cs h60 r hr m => parse_run b2 m 5 cs h60 bl r hr
  have both := adds_both (p := cs) (x := al) (y := bl) (parse_fit b1) (parse_ok b1) (ff := parse_fit b2) (fk := parse_ok b2)
  have hm1 : (rcheck (parse s1).1).2.1 = 0 → (rcheck (parse s1).1).1.mode = rMode (parse s1).1 := fun h0 => by rw [(rcheck_fine (parse_fit b1) (parse_ok b1) h0).1]
  have hm2 : (rcheck (parse s2).1).2.1 = 0 → (rcheck (parse s2).1).1.mode = rMode (parse s2).1 := fun h0 => by rw [(rcheck_fine (parse_fit b2) (parse_ok b2) h0).1]
  rw [b1, b2]
  generalize (parse s1).2.2 = pl1
  generalize (parse s2).2.2 = pl2
  generalize (parse s1).1 = d at *
  generalize (parse s2).1 = f at *
  clear b1 b2 hp1 hp2
  generalize rcheck d = X at *
  generalize rcheck f = Y at *
  generalize rMode d = md at *
  generalize rMode f = mf at *
  obtain ⟨⟨i1, i2, i3, i4⟩, c, a⟩ := X
  obtain ⟨⟨j1, j2, j3, j4⟩, k, a2⟩ := Y
  dsimp only at hm1 hm2 both
  refine TS.seq (TS.of [] fun Q hQ => ?_)
  simp only [go_sem, Nat.reduceEqDiff, Nat.reduceBEq, Int.reduceToNat, Int.reduceLT, Int.reduceLE, Int.reduceEq, Nat.reduceLeDiff, Nat.reduceLT, Nat.reduceMul, Nat.reduceAdd, String.reduceEq]
  refine hQ .normal _ ?_; clear hQ Q
  refine TS.seq (TS.of [] fun Q hQ => ?_)
  simp only [go_sem, Nat.reduceEqDiff, Nat.reduceBEq, Int.reduceToNat, Int.reduceLT, Int.reduceLE, Int.reduceEq, Nat.reduceLeDiff, Nat.reduceLT, Nat.reduceMul, Nat.reduceAdd, String.reduceEq, encD]
  refine cal_eq (hc1 _) ?_
  simp only [go_sem, Nat.reduceEqDiff, Nat.reduceBEq, Int.reduceToNat, Int.reduceLT, Int.reduceLE, Int.reduceEq, Nat.reduceLeDiff, Nat.reduceLT, Nat.reduceMul, Nat.reduceAdd, String.reduceEq]
  refine hQ .normal _ ?_; clear hQ Q
  refine TS.seq (TS.of [] fun Q hQ => ?_)
  simp only [go_sem, Nat.reduceEqDiff, Nat.reduceBEq, Int.reduceToNat, Int.reduceLT, Int.reduceLE, Int.reduceEq, Nat.reduceLeDiff, Nat.reduceLT, Nat.reduceMul, Nat.reduceAdd, String.reduceEq, encD]
  refine cal_eq (hc2 _) ?_
  simp only [go_sem, Nat.reduceEqDiff, Nat.reduceBEq, Int.reduceToNat, Int.reduceLT, Int.reduceLE, Int.reduceEq, Nat.reduceLeDiff, Nat.reduceLT, Nat.reduceMul, Nat.reduceAdd, String.reduceEq]
  refine hQ .normal _ ?_; clear hQ Q
  by_cases q0 : c = 0
  rotate_left
  · refine TS.of [2, 3] fun Q hQ => ?_
    simp only [go_sem, Nat.reduceEqDiff, Nat.reduceBEq, Int.reduceToNat, Int.reduceLT, Int.reduceLE, Int.reduceEq, Nat.reduceLeDiff, Nat.reduceLT, Nat.reduceMul, Nat.reduceAdd, String.reduceEq, eq_false q0, encD]
    refine hQ .ret _ ?_; clear hQ Q; refine post_ret _ _ (bb true) ?_ ?_ (DropW.tail0 _ rfl) ⟨rfl, rfl⟩
    · simp only [go_sem, Nat.reduceEqDiff, Nat.reduceBEq, Int.reduceToNat, Int.reduceLT, Int.reduceLE, Int.reduceEq, Nat.reduceLeDiff, Nat.reduceLT, Nat.reduceMul, Nat.reduceAdd, String.reduceEq]
    · rfl
  by_cases q1 : k = 0
  rotate_left
  · refine TS.of [2, 3] fun Q hQ => ?_
    simp only [go_sem, Nat.reduceEqDiff, Nat.reduceBEq, Int.reduceToNat, Int.reduceLT, Int.reduceLE, Int.reduceEq, Nat.reduceLeDiff, Nat.reduceLT, Nat.reduceMul, Nat.reduceAdd, String.reduceEq, eq_true q0, eq_false q1, encD]
    refine hQ .ret _ ?_; clear hQ Q; refine post_ret _ _ (bb true) ?_ ?_ (DropW.tail0 _ rfl) ⟨rfl, rfl⟩
    · simp only [go_sem, Nat.reduceEqDiff, Nat.reduceBEq, Int.reduceToNat, Int.reduceLT, Int.reduceLE, Int.reduceEq, Nat.reduceLeDiff, Nat.reduceLT, Nat.reduceMul, Nat.reduceAdd, String.reduceEq]
    · rfl
  by_cases q2 : i1 = 2
  rotate_left
  · refine TS.of [2, 3] fun Q hQ => ?_
    simp only [go_sem, Nat.reduceEqDiff, Nat.reduceBEq, Int.reduceToNat, Int.reduceLT, Int.reduceLE, Int.reduceEq, Nat.reduceLeDiff, Nat.reduceLT, Nat.reduceMul, Nat.reduceAdd, String.reduceEq, eq_true q0, eq_true q1, eq_false q2, encD]
    refine hQ .ret _ ?_; clear hQ Q; refine post_ret _ _ (bb true) ?_ ?_ (DropW.tail0 _ rfl) ⟨rfl, rfl⟩
    · simp only [go_sem, Nat.reduceEqDiff, Nat.reduceBEq, Int.reduceToNat, Int.reduceLT, Int.reduceLE, Int.reduceEq, Nat.reduceLeDiff, Nat.reduceLT, Nat.reduceMul, Nat.reduceAdd, String.reduceEq]
    · rfl
  by_cases q3 : j1 = 2
  rotate_left
  · refine TS.of [2, 3] fun Q hQ => ?_
    simp only [go_sem, Nat.reduceEqDiff, Nat.reduceBEq, Int.reduceToNat, Int.reduceLT, Int.reduceLE, Int.reduceEq, Nat.reduceLeDiff, Nat.reduceLT, Nat.reduceMul, Nat.reduceAdd, String.reduceEq, eq_true q0, eq_true q1, eq_true q2, eq_false q3, encD]
    refine hQ .ret _ ?_; clear hQ Q; refine post_ret _ _ (bb true) ?_ ?_ (DropW.tail0 _ rfl) ⟨rfl, rfl⟩
    · simp only [go_sem, Nat.reduceEqDiff, Nat.reduceBEq, Int.reduceToNat, Int.reduceLT, Int.reduceLE, Int.reduceEq, Nat.reduceLeDiff, Nat.reduceLT, Nat.reduceMul, Nat.reduceAdd, String.reduceEq]
    · rfl
  by_cases q4 : ((al.length : Nat) : Int) = (d.params.length : Int)
  rotate_left
  · refine TS.of [2, 3] fun Q hQ => ?_
    simp only [go_sem, Nat.reduceEqDiff, Nat.reduceBEq, Int.reduceToNat, Int.reduceLT, Int.reduceLE, Int.reduceEq, Nat.reduceLeDiff, Nat.reduceLT, Nat.reduceMul, Nat.reduceAdd, String.reduceEq, eq_true q0, eq_true q1, eq_true q2, eq_true q3, eq_false q4, encD]
    refine hQ .ret _ ?_; clear hQ Q; refine post_ret _ _ (bb true) ?_ ?_ (DropW.tail0 _ rfl) ⟨rfl, rfl⟩
    · simp only [go_sem, Nat.reduceEqDiff, Nat.reduceBEq, Int.reduceToNat, Int.reduceLT, Int.reduceLE, Int.reduceEq, Nat.reduceLeDiff, Nat.reduceLT, Nat.reduceMul, Nat.reduceAdd, String.reduceEq]
    · rfl
  by_cases q5 : ((bl.length : Nat) : Int) = (f.params.length : Int)
  rotate_left
  · refine TS.of [2, 3] fun Q hQ => ?_
    simp only [go_sem, Nat.reduceEqDiff, Nat.reduceBEq, Int.reduceToNat, Int.reduceLT, Int.reduceLE, Int.reduceEq, Nat.reduceLeDiff, Nat.reduceLT, Nat.reduceMul, Nat.reduceAdd, String.reduceEq, eq_true q0, eq_true q1, eq_true q2, eq_true q3, eq_true q4, eq_false q5, encD]
    refine hQ .ret _ ?_; clear hQ Q; refine post_ret _ _ (bb true) ?_ ?_ (DropW.tail0 _ rfl) ⟨rfl, rfl⟩
    · simp only [go_sem, Nat.reduceEqDiff, Nat.reduceBEq, Int.reduceToNat, Int.reduceLT, Int.reduceLE, Int.reduceEq, Nat.reduceLeDiff, Nat.reduceLT, Nat.reduceMul, Nat.reduceAdd, String.reduceEq]
    · rfl
  refine TS.seq (TS.of [2, 3] fun Q hQ => ?_)
  simp only [go_sem, Nat.reduceEqDiff, Nat.reduceBEq, Int.reduceToNat, Int.reduceLT, Int.reduceLE, Int.reduceEq, Nat.reduceLeDiff, Nat.reduceLT, Nat.reduceMul, Nat.reduceAdd, String.reduceEq, eq_true q0, eq_true q1, eq_true q2, eq_true q3, eq_true q4, eq_true q5, encD]
  refine hQ .normal _ ?_; clear hQ Q
  subst q0 q1
  have both2 := both rfl (by rw [← hm1 rfl]; exact q2) rfl (by rw [← hm2 rfl]; exact q3) (by omega) (by omega) fok
  clear both hm1 hm2 q2 q3 q4 q5
  refine TS.seq (TS.of [2, 3] fun Q hQ => ?_)
  simp only [go_sem, Nat.reduceEqDiff, Nat.reduceBEq, Int.reduceToNat, Int.reduceLT, Int.reduceLE, Int.reduceEq, Nat.reduceLeDiff, Nat.reduceLT, Nat.reduceMul, Nat.reduceAdd, String.reduceEq]
  refine cal_eq (hfl _) ?_
  simp only [go_sem, Nat.reduceEqDiff, Nat.reduceBEq, Int.reduceToNat, Int.reduceLT, Int.reduceLE, Int.reduceEq, Nat.reduceLeDiff, Nat.reduceLT, Nat.reduceMul, Nat.reduceAdd, String.reduceEq, ints_one, ints_sh, ml60 f60]
  refine hQ .normal _ ?_; clear hQ Q
  rcases both2 with ⟨r1, r2⟩ | ⟨b, mm, r1, r2, ob⟩ | ⟨a, nn, r1, r2, oa⟩ | ⟨a, b, e, nn, mm, r1, r2, r3, r4, oa, ob, oe⟩
  · have k1 := run1 cs f60 _ r1
    have k2 := run2 cs f60 _ r2
    refine TS.seq (TS.of [2, 3] fun Q hQ => ?_)
    simp only [go_sem, Nat.reduceEqDiff, Nat.reduceBEq, Int.reduceToNat, Int.reduceLT, Int.reduceLE, Int.reduceEq, Nat.reduceLeDiff, Nat.reduceLT, Nat.reduceMul, Nat.reduceAdd, String.reduceEq, encD, List.append_nil, le60 f60, tk60 f60, ints_sh]
    refine cal_eq (k1 _) ?_
    simp only [go_sem, Nat.reduceEqDiff, Nat.reduceBEq, Int.reduceToNat, Int.reduceLT, Int.reduceLE, Int.reduceEq, Nat.reduceLeDiff, Nat.reduceLT, Nat.reduceMul, Nat.reduceAdd, String.reduceEq, ints_one, ints_sh, ml60 z60]
    refine hQ .normal _ ?_; clear hQ Q
    refine TS.seq (TS.of [2, 3] fun Q hQ => ?_)
    simp only [go_sem, Nat.reduceEqDiff, Nat.reduceBEq, Int.reduceToNat, Int.reduceLT, Int.reduceLE, Int.reduceEq, Nat.reduceLeDiff, Nat.reduceLT, Nat.reduceMul, Nat.reduceAdd, String.reduceEq, encD, List.append_nil, le60 f60, tk60 f60, ints_sh]
    refine cal_eq (k2 _) ?_
    simp only [go_sem, Nat.reduceEqDiff, Nat.reduceBEq, Int.reduceToNat, Int.reduceLT, Int.reduceLE, Int.reduceEq, Nat.reduceLeDiff, Nat.reduceLT, Nat.reduceMul, Nat.reduceAdd, String.reduceEq, ints_one, ints_sh, ml60 z60]
    refine hQ .normal _ ?_; clear hQ Q
    refine TS.of [] fun Q hQ => ?_
    simp only [go_sem, Nat.reduceEqDiff, Nat.reduceBEq, Int.reduceToNat, Int.reduceLT, Int.reduceLE, Int.reduceEq, Nat.reduceLeDiff, Nat.reduceLT, Nat.reduceMul, Nat.reduceAdd, String.reduceEq, errE_12]
    refine hQ .ret _ ?_; clear hQ Q; refine post_ret _ _ (bb true) ?_ ?_ (DropW.tail0 _ rfl) ⟨rfl, rfl⟩
    · simp only [go_sem, Nat.reduceEqDiff, Nat.reduceBEq, Int.reduceToNat, Int.reduceLT, Int.reduceLE, Int.reduceEq, Nat.reduceLeDiff, Nat.reduceLT, Nat.reduceMul, Nat.reduceAdd, String.reduceEq]
    · rfl
  · have k1 := run1 cs f60 _ r1
    have k2 := run2 cs f60 _ r2
    refine TS.seq (TS.of [2, 3] fun Q hQ => ?_)
    simp only [go_sem, Nat.reduceEqDiff, Nat.reduceBEq, Int.reduceToNat, Int.reduceLT, Int.reduceLE, Int.reduceEq, Nat.reduceLeDiff, Nat.reduceLT, Nat.reduceMul, Nat.reduceAdd, String.reduceEq, encD, List.append_nil, le60 f60, tk60 f60, ints_sh]
    refine cal_eq (k1 _) ?_
    simp only [go_sem, Nat.reduceEqDiff, Nat.reduceBEq, Int.reduceToNat, Int.reduceLT, Int.reduceLE, Int.reduceEq, Nat.reduceLeDiff, Nat.reduceLT, Nat.reduceMul, Nat.reduceAdd, String.reduceEq, ints_one, ints_sh, ml60 z60]
    refine hQ .normal _ ?_; clear hQ Q
    refine TS.seq (TS.of [2, 3] fun Q hQ => ?_)
    simp only [go_sem, Nat.reduceEqDiff, Nat.reduceBEq, Int.reduceToNat, Int.reduceLT, Int.reduceLE, Int.reduceEq, Nat.reduceLeDiff, Nat.reduceLT, Nat.reduceMul, Nat.reduceAdd, String.reduceEq, encD, List.append_nil, le60 f60, tk60 f60, ints_sh]
    refine cal_eq (k2 _) ?_
    simp only [go_sem, Nat.reduceEqDiff, Nat.reduceBEq, Int.reduceToNat, Int.reduceLT, Int.reduceLE, Int.reduceEq, Nat.reduceLeDiff, Nat.reduceLT, Nat.reduceMul, Nat.reduceAdd, String.reduceEq, ints_one, ints_sh, ml60 ob.1]
    refine hQ .normal _ ?_; clear hQ Q
    refine TS.of [] fun Q hQ => ?_
    simp only [go_sem, Nat.reduceEqDiff, Nat.reduceBEq, Int.reduceToNat, Int.reduceLT, Int.reduceLE, Int.reduceEq, Nat.reduceLeDiff, Nat.reduceLT, Nat.reduceMul, Nat.reduceAdd, String.reduceEq, errE_12, errE_0]
    refine hQ .ret _ ?_; clear hQ Q; refine post_ret _ _ (bb true) ?_ ?_ (DropW.tail0 _ rfl) ⟨rfl, rfl⟩
    · simp only [go_sem, Nat.reduceEqDiff, Nat.reduceBEq, Int.reduceToNat, Int.reduceLT, Int.reduceLE, Int.reduceEq, Nat.reduceLeDiff, Nat.reduceLT, Nat.reduceMul, Nat.reduceAdd, String.reduceEq]
    · rfl
  · have k1 := run1 cs f60 _ r1
    have k2 := run2 cs f60 _ r2
    refine TS.seq (TS.of [2, 3] fun Q hQ => ?_)
    simp only [go_sem, Nat.reduceEqDiff, Nat.reduceBEq, Int.reduceToNat, Int.reduceLT, Int.reduceLE, Int.reduceEq, Nat.reduceLeDiff, Nat.reduceLT, Nat.reduceMul, Nat.reduceAdd, String.reduceEq, encD, List.append_nil, le60 f60, tk60 f60, ints_sh]
    refine cal_eq (k1 _) ?_
    simp only [go_sem, Nat.reduceEqDiff, Nat.reduceBEq, Int.reduceToNat, Int.reduceLT, Int.reduceLE, Int.reduceEq, Nat.reduceLeDiff, Nat.reduceLT, Nat.reduceMul, Nat.reduceAdd, String.reduceEq, ints_one, ints_sh, ml60 oa.1]
    refine hQ .normal _ ?_; clear hQ Q
    refine TS.seq (TS.of [2, 3] fun Q hQ => ?_)
    simp only [go_sem, Nat.reduceEqDiff, Nat.reduceBEq, Int.reduceToNat, Int.reduceLT, Int.reduceLE, Int.reduceEq, Nat.reduceLeDiff, Nat.reduceLT, Nat.reduceMul, Nat.reduceAdd, String.reduceEq, encD, List.append_nil, le60 f60, tk60 f60, ints_sh]
    refine cal_eq (k2 _) ?_
    simp only [go_sem, Nat.reduceEqDiff, Nat.reduceBEq, Int.reduceToNat, Int.reduceLT, Int.reduceLE, Int.reduceEq, Nat.reduceLeDiff, Nat.reduceLT, Nat.reduceMul, Nat.reduceAdd, String.reduceEq, ints_one, ints_sh, ml60 z60]
    refine hQ .normal _ ?_; clear hQ Q
    refine TS.of [] fun Q hQ => ?_
    simp only [go_sem, Nat.reduceEqDiff, Nat.reduceBEq, Int.reduceToNat, Int.reduceLT, Int.reduceLE, Int.reduceEq, Nat.reduceLeDiff, Nat.reduceLT, Nat.reduceMul, Nat.reduceAdd, String.reduceEq, errE_12, errE_0]
    refine hQ .ret _ ?_; clear hQ Q; refine post_ret _ _ (bb true) ?_ ?_ (DropW.tail0 _ rfl) ⟨rfl, rfl⟩
    · simp only [go_sem, Nat.reduceEqDiff, Nat.reduceBEq, Int.reduceToNat, Int.reduceLT, Int.reduceLE, Int.reduceEq, Nat.reduceLeDiff, Nat.reduceLT, Nat.reduceMul, Nat.reduceAdd, String.reduceEq]
    · rfl
  · have k1 := run1 cs f60 _ r1
    have k2 := run2 cs f60 _ r2
    have k3 := run2 a oa.1 _ r3
    have k4 := run1 b ob.1 _ r4
    refine TS.seq (TS.of [2, 3] fun Q hQ => ?_)
    simp only [go_sem, Nat.reduceEqDiff, Nat.reduceBEq, Int.reduceToNat, Int.reduceLT, Int.reduceLE, Int.reduceEq, Nat.reduceLeDiff, Nat.reduceLT, Nat.reduceMul, Nat.reduceAdd, String.reduceEq, encD, List.append_nil, le60 f60, tk60 f60, ints_sh]
    refine cal_eq (k1 _) ?_
    simp only [go_sem, Nat.reduceEqDiff, Nat.reduceBEq, Int.reduceToNat, Int.reduceLT, Int.reduceLE, Int.reduceEq, Nat.reduceLeDiff, Nat.reduceLT, Nat.reduceMul, Nat.reduceAdd, String.reduceEq, ints_one, ints_sh, ml60 oa.1]
    refine hQ .normal _ ?_; clear hQ Q
    refine TS.seq (TS.of [2, 3] fun Q hQ => ?_)
    simp only [go_sem, Nat.reduceEqDiff, Nat.reduceBEq, Int.reduceToNat, Int.reduceLT, Int.reduceLE, Int.reduceEq, Nat.reduceLeDiff, Nat.reduceLT, Nat.reduceMul, Nat.reduceAdd, String.reduceEq, encD, List.append_nil, le60 f60, tk60 f60, ints_sh]
    refine cal_eq (k2 _) ?_
    simp only [go_sem, Nat.reduceEqDiff, Nat.reduceBEq, Int.reduceToNat, Int.reduceLT, Int.reduceLE, Int.reduceEq, Nat.reduceLeDiff, Nat.reduceLT, Nat.reduceMul, Nat.reduceAdd, String.reduceEq, ints_one, ints_sh, ml60 ob.1]
    refine hQ .normal _ ?_; clear hQ Q
    refine TS.seq (TS.of [2, 3] fun Q hQ => ?_)
    simp only [go_sem, Nat.reduceEqDiff, Nat.reduceBEq, Int.reduceToNat, Int.reduceLT, Int.reduceLE, Int.reduceEq, Nat.reduceLeDiff, Nat.reduceLT, Nat.reduceMul, Nat.reduceAdd, String.reduceEq, errE_0]
    refine hQ .normal _ ?_; clear hQ Q
    refine TS.seq (TS.of [2, 3] fun Q hQ => ?_)
    simp only [go_sem, Nat.reduceEqDiff, Nat.reduceBEq, Int.reduceToNat, Int.reduceLT, Int.reduceLE, Int.reduceEq, Nat.reduceLeDiff, Nat.reduceLT, Nat.reduceMul, Nat.reduceAdd, String.reduceEq, encD, List.append_nil, le60 oa.1, tk60 oa.1, ints_sh]
    refine cal_eq (k3 _) ?_
    simp only [go_sem, Nat.reduceEqDiff, Nat.reduceBEq, Int.reduceToNat, Int.reduceLT, Int.reduceLE, Int.reduceEq, Nat.reduceLeDiff, Nat.reduceLT, Nat.reduceMul, Nat.reduceAdd, String.reduceEq, ints_one, ints_sh, ml60 oe.1]
    refine hQ .normal _ ?_; clear hQ Q
    refine TS.seq (TS.of [2, 3] fun Q hQ => ?_)
    simp only [go_sem, Nat.reduceEqDiff, Nat.reduceBEq, Int.reduceToNat, Int.reduceLT, Int.reduceLE, Int.reduceEq, Nat.reduceLeDiff, Nat.reduceLT, Nat.reduceMul, Nat.reduceAdd, String.reduceEq, encD, List.append_nil, le60 ob.1, tk60 ob.1, ints_sh]
    refine cal_eq (k4 _) ?_
    simp only [go_sem, Nat.reduceEqDiff, Nat.reduceBEq, Int.reduceToNat, Int.reduceLT, Int.reduceLE, Int.reduceEq, Nat.reduceLeDiff, Nat.reduceLT, Nat.reduceMul, Nat.reduceAdd, String.reduceEq, ints_one, ints_sh, ml60 oe.1]
    refine hQ .normal _ ?_; clear hQ Q
    refine TS.of [] fun Q hQ => ?_
    simp only [go_sem, Nat.reduceEqDiff, Nat.reduceBEq, Int.reduceToNat, Int.reduceLT, Int.reduceLE, Int.reduceEq, Nat.reduceLeDiff, Nat.reduceLT, Nat.reduceMul, Nat.reduceAdd, String.reduceEq, errE_0, List.append_nil, ints_pg, oe.1, le60 oe.1, tk60 oe.1, ints_sh]
    refine hQ .ret _ ?_; clear hQ Q; refine post_ret _ _ (bb true) ?_ ?_ (DropW.tail0 _ rfl) ⟨rfl, rfl⟩
    · simp only [go_sem, Nat.reduceEqDiff, Nat.reduceBEq, Int.reduceToNat, Int.reduceLT, Int.reduceLE, Int.reduceEq, Nat.reduceLeDiff, Nat.reduceLT, Nat.reduceMul, Nat.reduceAdd, String.reduceEq]
    · rfl
end Go.Proofs.Ytphjldhdnmoolaa.A
/- The walks of some functions over the abstract machine. -/
namespace Go.Proofs.Ytphjldhdnmoolaa.A
open Go
/-! the turned operation undoes -/
theorem can_run {d : Def} (hf : FitD d) (ho : DefOK d) (h : canT d) {cs args : List Int} (hC : okC cs) :
    ∃ r, runP d 5 cs args = some r ∧ (r = fault0 2 ∨ r = fault0 12 ∨ (r.e = 0 ∧ r.lsn = 5 ∧ okC r.cs ∧ runP (turnD d) 5 r.cs args = some ⟨5, cs, 0, 0⟩)) := by
  obtain ⟨r, h1, _, h3⟩ := reads_run hf ho cs args hC.1
  refine ⟨r, h1, ?_⟩
  rcases h3 h.1 with h4 | h4 | ⟨h4, h5, _⟩
  · exact .inl h4
  · exact .inr (.inl h4)
  · obtain ⟨g1, g2, g3⟩ := undo_run hf ho h.1 h.2.1 h.2.2 hC h1 h4
    exact .inr (.inr ⟨h4, h5, g2, g3⟩)
theorem run_any (m : Mem) {d : Def} (hf : FitD d) (ho : DefOK d) (lsn : Int) (cs args : List Int) (h60 : cs.length = 60) (r : RunR) (hr : runP d lsn cs args = some r) :
    Sim 30 [.agg (encD d), .agg (pgI lsn cs), .sl .sh args.length (args.map (IV.v <| .int .i64 ·))] m (fun x m' => x = runI r ∧ m' = m) := run_sim m d ho (fits_arg _ hf.body) lsn cs h60 args r hr
set_option maxRecDepth 100000 in
set_option maxHeartbeats 4000000 in
theorem iundoes_law (m : Mem) (s : Bytes) (cl al : List Int) (hcl : cl.length < 4000000000000000000) (h0 : ∀ n ∈ cl, -9223372036854775808 ≤ n) (h1 : ∀ n ∈ cl, n < 9223372036854775808) :
    Sim 20 [.agg [ss s, .sl .sh cl.length (cl.map (IV.v <| .int .i64 ·)), .sl .sh al.length (al.map (IV.v <| .int .i64 ·))]] m (fun r m' => r = bb true ∧ m' = m) := by
  have f60 := filled_len cl
  have fok := filled_ok h0 h1
  have hfl := fun m => filled10_sim m cl hcl
  generalize filledP cl = cs at f60 hfl fok
  have hp := fun m => parsed_sim m s
  refine Sim.ofS 66 [.tmp 2] Try.func20 rfl rfl rfl (by simp) fun wr => ?_
  simp only [go_sem, Nat.reduceEqDiff, Nat.reduceBEq, Int.reduceToNat, Int.reduceLT, Int.reduceLE, Int.reduceEq, Nat.reduceLeDiff, Nat.reduceLT, Nat.reduceMul, Nat.reduceAdd, String.reduceEq]
  refine TS.seq (TS.of [1] fun Q hQ => ?_)
  simp only [go_sem, Nat.reduceEqDiff, Nat.reduceBEq, Int.reduceToNat, Int.reduceLT, Int.reduceLE, Int.reduceEq, Nat.reduceLeDiff, Nat.reduceLT, Nat.reduceMul, Nat.reduceAdd, String.reduceEq]
  refine hQ .normal _ ?_; clear hQ Q
  refine TS.seq (TS.of [] fun Q hQ => ?_)
  simp only [go_sem, Nat.reduceEqDiff, Nat.reduceBEq, Int.reduceToNat, Int.reduceLT, Int.reduceLE, Int.reduceEq, Nat.reduceLeDiff, Nat.reduceLT, Nat.reduceMul, Nat.reduceAdd, String.reduceEq]
  refine cal_eq (alive10_sim _) ?_
  simp only [go_sem, Nat.reduceEqDiff, Nat.reduceBEq, Int.reduceToNat, Int.reduceLT, Int.reduceLE, Int.reduceEq, Nat.reduceLeDiff, Nat.reduceLT, Nat.reduceMul, Nat.reduceAdd, String.reduceEq]
  refine hQ .normal _ ?_; clear hQ Q
  refine TS.seq (TS.of [1] fun Q hQ => ?_)
  simp only [go_sem, Nat.reduceEqDiff, Nat.reduceBEq, Int.reduceToNat, Int.reduceLT, Int.reduceLE, Int.reduceEq, Nat.reduceLeDiff, Nat.reduceLT, Nat.reduceMul, Nat.reduceAdd, String.reduceEq]
  refine cal_eq (hp _) ?_
  simp only [go_sem, Nat.reduceEqDiff, Nat.reduceBEq, Int.reduceToNat, Int.reduceLT, Int.reduceLE, Int.reduceEq, Nat.reduceLeDiff, Nat.reduceLT, Nat.reduceMul, Nat.reduceAdd, String.reduceEq, encD]
  refine hQ .normal _ ?_; clear hQ Q
  by_cases b1 : (parse s).2.1 = 0
  rotate_left
  · refine TS.of [] fun Q hQ => ?_
    simp only [go_sem, Nat.reduceEqDiff, Nat.reduceBEq, Int.reduceToNat, Int.reduceLT, Int.reduceLE, Int.reduceEq, Nat.reduceLeDiff, Nat.reduceLT, Nat.reduceMul, Nat.reduceAdd, String.reduceEq, eq_false b1]
    refine hQ .ret _ ?_; clear hQ Q; refine post_ret _ _ (bb true) ?_ ?_ (DropW.tail0 _ rfl) ⟨rfl, rfl⟩
    · simp only [go_sem, Nat.reduceEqDiff, Nat.reduceBEq, Int.reduceToNat, Int.reduceLT, Int.reduceLE, Int.reduceEq, Nat.reduceLeDiff, Nat.reduceLT, Nat.reduceMul, Nat.reduceAdd, String.reduceEq]
    · rfl
  have hf := parse_fit b1
  have ho := parse_ok b1
  have ht := fun m => turn_sim m (parse s).1 ho
  have y1 := turnI_can hf ho
  have y2 := turnI_not hf ho
  have run1 := fun r hr m => run_any m hf ho 5 cs al f60 r hr
  have run2 := fun cs h60 r hr m => run_any m (fit_turn hf) (ok_turn hf ho) 5 cs al h60 r hr
  have hcr := fun h => can_run (args := al) hf ho h fok
  clear hp
  generalize parse s = P0 at *
  obtain ⟨d, c0, p0⟩ := P0
  dsimp only at b1 hf ho ht y1 y2 run1 run2 hcr
  subst b1
  refine TS.seq (TS.of [] fun Q hQ => ?_)
  simp only [go_sem, Nat.reduceEqDiff, Nat.reduceBEq, Int.reduceToNat, Int.reduceLT, Int.reduceLE, Int.reduceEq, Nat.reduceLeDiff, Nat.reduceLT, Nat.reduceMul, Nat.reduceAdd, String.reduceEq, eq_self, decide_true]
  refine hQ .normal _ ?_; clear hQ Q
  by_cases hcn : canT d
  rotate_left
  · rw [y2 hcn] at ht
    refine TS.seq (TS.of [] fun Q hQ => ?_)
    simp only [go_sem, Nat.reduceEqDiff, Nat.reduceBEq, Int.reduceToNat, Int.reduceLT, Int.reduceLE, Int.reduceEq, Nat.reduceLeDiff, Nat.reduceLT, Nat.reduceMul, Nat.reduceAdd, String.reduceEq, encD]
    refine cal_eq (ht _) ?_
    simp only [go_sem, Nat.reduceEqDiff, Nat.reduceBEq, Int.reduceToNat, Int.reduceLT, Int.reduceLE, Int.reduceEq, Nat.reduceLeDiff, Nat.reduceLT, Nat.reduceMul, Nat.reduceAdd, String.reduceEq, encD]
    refine hQ .normal _ ?_; clear hQ Q
    refine TS.of [] fun Q hQ => ?_
    simp only [go_sem, Nat.reduceEqDiff, Nat.reduceBEq, Int.reduceToNat, Int.reduceLT, Int.reduceLE, Int.reduceEq, Nat.reduceLeDiff, Nat.reduceLT, Nat.reduceMul, Nat.reduceAdd, String.reduceEq]
    refine hQ .ret _ ?_; clear hQ Q; refine post_ret _ _ (bb true) ?_ ?_ (DropW.tail0 _ rfl) ⟨rfl, rfl⟩
    · simp only [go_sem, Nat.reduceEqDiff, Nat.reduceBEq, Int.reduceToNat, Int.reduceLT, Int.reduceLE, Int.reduceEq, Nat.reduceLeDiff, Nat.reduceLT, Nat.reduceMul, Nat.reduceAdd, String.reduceEq]
    · rfl
  rw [y1 hcn] at ht
  refine TS.seq (TS.of [] fun Q hQ => ?_)
  simp only [go_sem, Nat.reduceEqDiff, Nat.reduceBEq, Int.reduceToNat, Int.reduceLT, Int.reduceLE, Int.reduceEq, Nat.reduceLeDiff, Nat.reduceLT, Nat.reduceMul, Nat.reduceAdd, String.reduceEq, encD]
  refine cal_eq (ht _) ?_
  simp only [go_sem, Nat.reduceEqDiff, Nat.reduceBEq, Int.reduceToNat, Int.reduceLT, Int.reduceLE, Int.reduceEq, Nat.reduceLeDiff, Nat.reduceLT, Nat.reduceMul, Nat.reduceAdd, String.reduceEq, encD]
  refine hQ .normal _ ?_; clear hQ Q
  refine TS.seq (TS.of [] fun Q hQ => ?_)
  simp only [go_sem, Nat.reduceEqDiff, Nat.reduceBEq, Int.reduceToNat, Int.reduceLT, Int.reduceLE, Int.reduceEq, Nat.reduceLeDiff, Nat.reduceLT, Nat.reduceMul, Nat.reduceAdd, String.reduceEq]
  refine hQ .normal _ ?_; clear hQ Q
  refine TS.seq (TS.of [1] fun Q hQ => ?_)
  simp only [go_sem, Nat.reduceEqDiff, Nat.reduceBEq, Int.reduceToNat, Int.reduceLT, Int.reduceLE, Int.reduceEq, Nat.reduceLeDiff, Nat.reduceLT, Nat.reduceMul, Nat.reduceAdd, String.reduceEq]
  refine cal_eq (hfl _) ?_
  simp only [go_sem, Nat.reduceEqDiff, Nat.reduceBEq, Int.reduceToNat, Int.reduceLT, Int.reduceLE, Int.reduceEq, Nat.reduceLeDiff, Nat.reduceLT, Nat.reduceMul, Nat.reduceAdd, String.reduceEq, ints_one, ints_sh, ml60 f60]
  refine hQ .normal _ ?_; clear hQ Q
  obtain ⟨r, r1, hr⟩ := hcr hcn
  have k1 := run1 r r1
  rcases hr with rfl | rfl | ⟨e0, el, rok, r2⟩
  · refine TS.seq (TS.of [1] fun Q hQ => ?_)
    simp only [go_sem, Nat.reduceEqDiff, Nat.reduceBEq, Int.reduceToNat, Int.reduceLT, Int.reduceLE, Int.reduceEq, Nat.reduceLeDiff, Nat.reduceLT, Nat.reduceMul, Nat.reduceAdd, String.reduceEq, encD, List.append_nil, le60 f60, tk60 f60, ints_sh]
    refine cal_eq (k1 _) ?_
    simp only [go_sem, Nat.reduceEqDiff, Nat.reduceBEq, Int.reduceToNat, Int.reduceLT, Int.reduceLE, Int.reduceEq, Nat.reduceLeDiff, Nat.reduceLT, Nat.reduceMul, Nat.reduceAdd, String.reduceEq, ints_one, ints_sh, ml60 z60]
    refine hQ .normal _ ?_; clear hQ Q
    refine TS.of [] fun Q hQ => ?_
    simp only [go_sem, Nat.reduceEqDiff, Nat.reduceBEq, Int.reduceToNat, Int.reduceLT, Int.reduceLE, Int.reduceEq, Nat.reduceLeDiff, Nat.reduceLT, Nat.reduceMul, Nat.reduceAdd, String.reduceEq, errE_2]
    refine hQ .ret _ ?_; clear hQ Q; refine post_ret _ _ (bb true) ?_ ?_ (DropW.tail0 _ rfl) ⟨rfl, rfl⟩
    · simp only [go_sem, Nat.reduceEqDiff, Nat.reduceBEq, Int.reduceToNat, Int.reduceLT, Int.reduceLE, Int.reduceEq, Nat.reduceLeDiff, Nat.reduceLT, Nat.reduceMul, Nat.reduceAdd, String.reduceEq]
    · rfl
  · refine TS.seq (TS.of [1] fun Q hQ => ?_)
    simp only [go_sem, Nat.reduceEqDiff, Nat.reduceBEq, Int.reduceToNat, Int.reduceLT, Int.reduceLE, Int.reduceEq, Nat.reduceLeDiff, Nat.reduceLT, Nat.reduceMul, Nat.reduceAdd, String.reduceEq, encD, List.append_nil, le60 f60, tk60 f60, ints_sh]
    refine cal_eq (k1 _) ?_
    simp only [go_sem, Nat.reduceEqDiff, Nat.reduceBEq, Int.reduceToNat, Int.reduceLT, Int.reduceLE, Int.reduceEq, Nat.reduceLeDiff, Nat.reduceLT, Nat.reduceMul, Nat.reduceAdd, String.reduceEq, ints_one, ints_sh, ml60 z60]
    refine hQ .normal _ ?_; clear hQ Q
    refine TS.of [] fun Q hQ => ?_
    simp only [go_sem, Nat.reduceEqDiff, Nat.reduceBEq, Int.reduceToNat, Int.reduceLT, Int.reduceLE, Int.reduceEq, Nat.reduceLeDiff, Nat.reduceLT, Nat.reduceMul, Nat.reduceAdd, String.reduceEq, errE_12]
    refine hQ .ret _ ?_; clear hQ Q; refine post_ret _ _ (bb true) ?_ ?_ (DropW.tail0 _ rfl) ⟨rfl, rfl⟩
    · simp only [go_sem, Nat.reduceEqDiff, Nat.reduceBEq, Int.reduceToNat, Int.reduceLT, Int.reduceLE, Int.reduceEq, Nat.reduceLeDiff, Nat.reduceLT, Nat.reduceMul, Nat.reduceAdd, String.reduceEq]
    · rfl
  · obtain ⟨rl, rc, rn, re⟩ := r
    dsimp only at e0 el rok r2
    subst e0 el
    have k2 := run2 rc rok.1 _ r2
    rw [encD_turn] at k2
    refine TS.seq (TS.of [1] fun Q hQ => ?_)
    simp only [go_sem, Nat.reduceEqDiff, Nat.reduceBEq, Int.reduceToNat, Int.reduceLT, Int.reduceLE, Int.reduceEq, Nat.reduceLeDiff, Nat.reduceLT, Nat.reduceMul, Nat.reduceAdd, String.reduceEq, encD, List.append_nil, le60 f60, tk60 f60, ints_sh]
    refine cal_eq (k1 _) ?_
    simp only [go_sem, Nat.reduceEqDiff, Nat.reduceBEq, Int.reduceToNat, Int.reduceLT, Int.reduceLE, Int.reduceEq, Nat.reduceLeDiff, Nat.reduceLT, Nat.reduceMul, Nat.reduceAdd, String.reduceEq, ints_one, ints_sh, ml60 rok.1]
    refine hQ .normal _ ?_; clear hQ Q
    refine TS.seq (TS.of [1] fun Q hQ => ?_)
    simp only [go_sem, Nat.reduceEqDiff, Nat.reduceBEq, Int.reduceToNat, Int.reduceLT, Int.reduceLE, Int.reduceEq, Nat.reduceLeDiff, Nat.reduceLT, Nat.reduceMul, Nat.reduceAdd, String.reduceEq, errE_0]
    refine hQ .normal _ ?_; clear hQ Q
    refine TS.seq (TS.of [1] fun Q hQ => ?_)
    simp only [go_sem, Nat.reduceEqDiff, Nat.reduceBEq, Int.reduceToNat, Int.reduceLT, Int.reduceLE, Int.reduceEq, Nat.reduceLeDiff, Nat.reduceLT, Nat.reduceMul, Nat.reduceAdd, String.reduceEq, encD, List.append_nil, le60 rok.1, tk60 rok.1, ints_sh]
    refine cal_eq (k2 _) ?_
    simp only [go_sem, Nat.reduceEqDiff, Nat.reduceBEq, Int.reduceToNat, Int.reduceLT, Int.reduceLE, Int.reduceEq, Nat.reduceLeDiff, Nat.reduceLT, Nat.reduceMul, Nat.reduceAdd, String.reduceEq, ints_one, ints_sh, ml60 f60]
    refine hQ .normal _ ?_; clear hQ Q
    refine TS.of [] fun Q hQ => ?_
    simp only [go_sem, Nat.reduceEqDiff, Nat.reduceBEq, Int.reduceToNat, Int.reduceLT, Int.reduceLE, Int.reduceEq, Nat.reduceLeDiff, Nat.reduceLT, Nat.reduceMul, Nat.reduceAdd, String.reduceEq, errE_0, List.append_nil, ints_pg, f60, le60 f60, tk60 f60, ints_sh, eq_self, decide_true]
    refine hQ .ret _ ?_; clear hQ Q; refine post_ret _ _ (bb true) ?_ ?_ (DropW.tail0 _ rfl) ⟨rfl, rfl⟩
    · simp only [go_sem, Nat.reduceEqDiff, Nat.reduceBEq, Int.reduceToNat, Int.reduceLT, Int.reduceLE, Int.reduceEq, Nat.reduceLeDiff, Nat.reduceLT, Nat.reduceMul, Nat.reduceAdd, String.reduceEq]
    · rfl
end Go.Proofs.Ytphjldhdnmoolaa.A
/- The walks of some functions over the abstract machine. -/
namespace Go.Proofs.Ytphjldhdnmoolaa.A
open Go
/-! an operation turned twice -/
theorem can_turn {d : Def} (hf : FitD d) (ho : DefOK d) (h : canT d) : canT (turnD d) :=
  ⟨chk_code (chk_turn hf ho (chk_of hf ho h.1)) rfl rfl, (hasB_turn kinds_22 hf.body).trans h.2.1, (readsB_turn hf.body).trans h.2.2⟩
theorem check_turn {d : Def} (hf : FitD d) (ho : DefOK d) (h : canT d) (hn : d.needs = []) (hg : d.give = []) : check (turnD d) = check d := by
  have h1 := check_same hf ho
  have h2 := check_same (fit_turn hf) (ok_turn hf ho)
  have h3 := turn_rcheck hf ho (chk_of hf ho h.1) hn hg
  have e1 := (check_none hf ho).1 h.1
  have e2 := (check_none (fit_turn hf) (ok_turn hf ho)).1 (can_turn hf ho h).1
  refine Prod.ext ?_ (e2.trans e1.symm)
  rw [h1.1, h2.1, h3]
theorem encD_bare (d : Def) : encD (bare d) = [ss d.name, slS d.params, slE [], slT d.body, slE []] := rfl
set_option maxRecDepth 100000 in
set_option maxHeartbeats 4000000 in
theorem iagain_law (m : Mem) (s : Bytes) (cl al : List Int) (hcl : cl.length < 4000000000000000000) (h0 : ∀ n ∈ cl, -9223372036854775808 ≤ n) (h1 : ∀ n ∈ cl, n < 9223372036854775808) :
    Sim 4 [.agg [ss s, .sl .sh cl.length (cl.map (IV.v <| .int .i64 ·)), .sl .sh al.length (al.map (IV.v <| .int .i64 ·))]] m (fun r m' => r = bb true ∧ m' = m) := by
  have f60 := filled_len cl
  have fok := filled_ok h0 h1
  have hfl := fun m => filled10_sim m cl hcl
  generalize filledP cl = cs at f60 hfl fok
  have hp := fun m => parsed_sim m s
  refine Sim.ofS 98 [.tmp 2] Try.func4 rfl rfl rfl (by simp) fun wr => ?_
  simp only [go_sem, Nat.reduceEqDiff, Nat.reduceBEq, Int.reduceToNat, Int.reduceLT, Int.reduceLE, Int.reduceEq, Nat.reduceLeDiff, Nat.reduceLT, Nat.reduceMul, Nat.reduceAdd, String.reduceEq]
  refine TS.seq (TS.of [1] fun Q hQ => ?_)
  simp only [go_sem, Nat.reduceEqDiff, Nat.reduceBEq, Int.reduceToNat, Int.reduceLT, Int.reduceLE, Int.reduceEq, Nat.reduceLeDiff, Nat.reduceLT, Nat.reduceMul, Nat.reduceAdd, String.reduceEq]
  refine hQ .normal _ ?_; clear hQ Q
  refine TS.seq (TS.of [] fun Q hQ => ?_)
  simp only [go_sem, Nat.reduceEqDiff, Nat.reduceBEq, Int.reduceToNat, Int.reduceLT, Int.reduceLE, Int.reduceEq, Nat.reduceLeDiff, Nat.reduceLT, Nat.reduceMul, Nat.reduceAdd, String.reduceEq]
  refine cal_eq (alive10_sim _) ?_
  simp only [go_sem, Nat.reduceEqDiff, Nat.reduceBEq, Int.reduceToNat, Int.reduceLT, Int.reduceLE, Int.reduceEq, Nat.reduceLeDiff, Nat.reduceLT, Nat.reduceMul, Nat.reduceAdd, String.reduceEq]
  refine hQ .normal _ ?_; clear hQ Q
  refine TS.seq (TS.of [1] fun Q hQ => ?_)
  simp only [go_sem, Nat.reduceEqDiff, Nat.reduceBEq, Int.reduceToNat, Int.reduceLT, Int.reduceLE, Int.reduceEq, Nat.reduceLeDiff, Nat.reduceLT, Nat.reduceMul, Nat.reduceAdd, String.reduceEq]
  refine cal_eq (hp _) ?_
  simp only [go_sem, Nat.reduceEqDiff, Nat.reduceBEq, Int.reduceToNat, Int.reduceLT, Int.reduceLE, Int.reduceEq, Nat.reduceLeDiff, Nat.reduceLT, Nat.reduceMul, Nat.reduceAdd, String.reduceEq, encD]
  refine hQ .normal _ ?_; clear hQ Q
  by_cases b1 : (parse s).2.1 = 0
  rotate_left
  · refine TS.of [] fun Q hQ => ?_
    simp only [go_sem, Nat.reduceEqDiff, Nat.reduceBEq, Int.reduceToNat, Int.reduceLT, Int.reduceLE, Int.reduceEq, Nat.reduceLeDiff, Nat.reduceLT, Nat.reduceMul, Nat.reduceAdd, String.reduceEq, eq_false b1]
    refine hQ .ret _ ?_; clear hQ Q; refine post_ret _ _ (bb true) ?_ ?_ (DropW.tail0 _ rfl) ⟨rfl, rfl⟩
    · simp only [go_sem, Nat.reduceEqDiff, Nat.reduceBEq, Int.reduceToNat, Int.reduceLT, Int.reduceLE, Int.reduceEq, Nat.reduceLeDiff, Nat.reduceLT, Nat.reduceMul, Nat.reduceAdd, String.reduceEq]
    · rfl
  have hf := fit_bare (parse_fit b1)
  have ho := ok_bare (parse_ok b1)
  have ht := fun m => turn_sim m (bare (parse s).1) ho
  have ht2 := fun m => turn_sim m (turnD (bare (parse s).1)) (ok_turn hf ho)
  have hc1 := fun m => check_sim m (bare (parse s).1) ho
  have hc2 := fun m => check_sim m (turnD (bare (parse s).1)) (ok_turn hf ho)
  have y1 := turnI_can hf ho
  have y2 := turnI_not hf ho
  have y3 := fun h => turnI_can (fit_turn hf) (ok_turn hf ho) (can_turn hf ho h)
  have hn1 := fun (h : canT (bare (parse s).1)) => (check_none hf ho).1 h.1
  have hct := fun h => check_turn hf ho h rfl rfl
  have run1 := fun r hr m => run_any m hf ho 5 cs al f60 r hr
  have run2 := fun r hr m => run_any m (fit_turn (fit_turn hf)) (ok_turn (fit_turn hf) (ok_turn hf ho)) 5 cs al f60 r hr
  have hag := fun (h : canT (bare (parse s).1)) => again_run (args := al) hf ho h.1 h.2.1 h.2.2 rfl rfl fok
  clear hp
  generalize parse s = P0 at *
  obtain ⟨d, c0, p0⟩ := P0
  dsimp only at b1 hf ho ht ht2 hc1 hc2 y1 y2 y3 hn1 hct run1 run2 hag
  subst b1
  refine TS.seq (TS.of [] fun Q hQ => ?_)
  simp only [go_sem, Nat.reduceEqDiff, Nat.reduceBEq, Int.reduceToNat, Int.reduceLT, Int.reduceLE, Int.reduceEq, Nat.reduceLeDiff, Nat.reduceLT, Nat.reduceMul, Nat.reduceAdd, String.reduceEq, eq_self, decide_true]
  refine hQ .normal _ ?_; clear hQ Q
  refine TS.seq (TS.of [] fun Q hQ => ?_)
  simp only [go_sem, Nat.reduceEqDiff, Nat.reduceBEq, Int.reduceToNat, Int.reduceLT, Int.reduceLE, Int.reduceEq, Nat.reduceLeDiff, Nat.reduceLT, Nat.reduceMul, Nat.reduceAdd, String.reduceEq, encD]
  refine hQ .normal _ ?_; clear hQ Q
  by_cases hcn : canT (bare d)
  rotate_left
  · rw [y2 hcn] at ht
    refine TS.seq (TS.of [] fun Q hQ => ?_)
    simp only [go_sem, Nat.reduceEqDiff, Nat.reduceBEq, Int.reduceToNat, Int.reduceLT, Int.reduceLE, Int.reduceEq, Nat.reduceLeDiff, Nat.reduceLT, Nat.reduceMul, Nat.reduceAdd, String.reduceEq, encD]
    refine cal_eq (ht _) ?_
    simp only [go_sem, Nat.reduceEqDiff, Nat.reduceBEq, Int.reduceToNat, Int.reduceLT, Int.reduceLE, Int.reduceEq, Nat.reduceLeDiff, Nat.reduceLT, Nat.reduceMul, Nat.reduceAdd, String.reduceEq, encD]
    refine hQ .normal _ ?_; clear hQ Q
    refine TS.of [] fun Q hQ => ?_
    simp only [go_sem, Nat.reduceEqDiff, Nat.reduceBEq, Int.reduceToNat, Int.reduceLT, Int.reduceLE, Int.reduceEq, Nat.reduceLeDiff, Nat.reduceLT, Nat.reduceMul, Nat.reduceAdd, String.reduceEq]
    refine hQ .ret _ ?_; clear hQ Q; refine post_ret _ _ (bb true) ?_ ?_ (DropW.tail0 _ rfl) ⟨rfl, rfl⟩
    · simp only [go_sem, Nat.reduceEqDiff, Nat.reduceBEq, Int.reduceToNat, Int.reduceLT, Int.reduceLE, Int.reduceEq, Nat.reduceLeDiff, Nat.reduceLT, Nat.reduceMul, Nat.reduceAdd, String.reduceEq]
    · rfl
  rw [y1 hcn] at ht
  rw [y3 hcn] at ht2
  have hn := hn1 hcn
  have hE := hct hcn
  rw [hE, hn, errI_none] at hc2
  rw [hn, errI_none] at hc1
  obtain ⟨r, r1, r2, rl, re⟩ := hag hcn
  have k1 := run1 r r1
  have k2 := run2 r r2
  have hz : ∀ m, Sim 31 [errE r.e] m (fun x m' => x = ii r.e ∧ m' = m) := fun m => num_sim m r.e
  clear y1 y2 y3 hn1 hct run1 run2 hag hE hn r1 r2
  generalize (check (bare d)).1 = inf at hc1 hc2
  obtain ⟨j1, j2, j3, j4⟩ := inf
  obtain ⟨w1, w2, w3, w4⟩ := r
  dsimp only at rl re hz
  refine TS.seq (TS.of [] fun Q hQ => ?_)
  simp only [go_sem, Nat.reduceEqDiff, Nat.reduceBEq, Int.reduceToNat, Int.reduceLT, Int.reduceLE, Int.reduceEq, Nat.reduceLeDiff, Nat.reduceLT, Nat.reduceMul, Nat.reduceAdd, String.reduceEq, encD]
  refine cal_eq (ht _) ?_
  simp only [go_sem, Nat.reduceEqDiff, Nat.reduceBEq, Int.reduceToNat, Int.reduceLT, Int.reduceLE, Int.reduceEq, Nat.reduceLeDiff, Nat.reduceLT, Nat.reduceMul, Nat.reduceAdd, String.reduceEq, encD]
  refine hQ .normal _ ?_; clear hQ Q
  refine TS.seq (TS.of [] fun Q hQ => ?_)
  simp only [go_sem, Nat.reduceEqDiff, Nat.reduceBEq, Int.reduceToNat, Int.reduceLT, Int.reduceLE, Int.reduceEq, Nat.reduceLeDiff, Nat.reduceLT, Nat.reduceMul, Nat.reduceAdd, String.reduceEq]
  refine hQ .normal _ ?_; clear hQ Q
  refine TS.seq (TS.of [] fun Q hQ => ?_)
  simp only [go_sem, Nat.reduceEqDiff, Nat.reduceBEq, Int.reduceToNat, Int.reduceLT, Int.reduceLE, Int.reduceEq, Nat.reduceLeDiff, Nat.reduceLT, Nat.reduceMul, Nat.reduceAdd, String.reduceEq, encD]
  refine cal_eq (hc1 _) ?_
  simp only [go_sem, Nat.reduceEqDiff, Nat.reduceBEq, Int.reduceToNat, Int.reduceLT, Int.reduceLE, Int.reduceEq, Nat.reduceLeDiff, Nat.reduceLT, Nat.reduceMul, Nat.reduceAdd, String.reduceEq, encD]
  refine hQ .normal _ ?_; clear hQ Q
  refine TS.seq (TS.of [] fun Q hQ => ?_)
  simp only [go_sem, Nat.reduceEqDiff, Nat.reduceBEq, Int.reduceToNat, Int.reduceLT, Int.reduceLE, Int.reduceEq, Nat.reduceLeDiff, Nat.reduceLT, Nat.reduceMul, Nat.reduceAdd, String.reduceEq, encD]
  refine cal_eq (hc2 _) ?_
  simp only [go_sem, Nat.reduceEqDiff, Nat.reduceBEq, Int.reduceToNat, Int.reduceLT, Int.reduceLE, Int.reduceEq, Nat.reduceLeDiff, Nat.reduceLT, Nat.reduceMul, Nat.reduceAdd, String.reduceEq, encD]
  refine hQ .normal _ ?_; clear hQ Q
  refine TS.seq (TS.of [] fun Q hQ => ?_)
  simp only [go_sem, Nat.reduceEqDiff, Nat.reduceBEq, Int.reduceToNat, Int.reduceLT, Int.reduceLE, Int.reduceEq, Nat.reduceLeDiff, Nat.reduceLT, Nat.reduceMul, Nat.reduceAdd, String.reduceEq, encD]
  refine cal_eq (ht2 _) ?_
  simp only [go_sem, Nat.reduceEqDiff, Nat.reduceBEq, Int.reduceToNat, Int.reduceLT, Int.reduceLE, Int.reduceEq, Nat.reduceLeDiff, Nat.reduceLT, Nat.reduceMul, Nat.reduceAdd, String.reduceEq, encD]
  refine hQ .normal _ ?_; clear hQ Q
  refine TS.seq (TS.of [] fun Q hQ => ?_)
  simp only [go_sem, Nat.reduceEqDiff, Nat.reduceBEq, Int.reduceToNat, Int.reduceLT, Int.reduceLE, Int.reduceEq, Nat.reduceLeDiff, Nat.reduceLT, Nat.reduceMul, Nat.reduceAdd, String.reduceEq, info_ii, eq_self, decide_true]
  refine hQ .normal _ ?_; clear hQ Q
  refine TS.seq (TS.of [1] fun Q hQ => ?_)
  simp only [go_sem, Nat.reduceEqDiff, Nat.reduceBEq, Int.reduceToNat, Int.reduceLT, Int.reduceLE, Int.reduceEq, Nat.reduceLeDiff, Nat.reduceLT, Nat.reduceMul, Nat.reduceAdd, String.reduceEq]
  refine cal_eq (hfl _) ?_
  simp only [go_sem, Nat.reduceEqDiff, Nat.reduceBEq, Int.reduceToNat, Int.reduceLT, Int.reduceLE, Int.reduceEq, Nat.reduceLeDiff, Nat.reduceLT, Nat.reduceMul, Nat.reduceAdd, String.reduceEq, ints_one, ints_sh, ml60 f60]
  refine hQ .normal _ ?_; clear hQ Q
  rcases re with rfl | rfl
  · rw [errE_0] at hz
    refine TS.seq (TS.of [1] fun Q hQ => ?_)
    simp only [go_sem, Nat.reduceEqDiff, Nat.reduceBEq, Int.reduceToNat, Int.reduceLT, Int.reduceLE, Int.reduceEq, Nat.reduceLeDiff, Nat.reduceLT, Nat.reduceMul, Nat.reduceAdd, String.reduceEq, encD, List.append_nil, le60 f60, tk60 f60, ints_sh]
    refine cal_eq (k1 _) ?_
    simp only [go_sem, Nat.reduceEqDiff, Nat.reduceBEq, Int.reduceToNat, Int.reduceLT, Int.reduceLE, Int.reduceEq, Nat.reduceLeDiff, Nat.reduceLT, Nat.reduceMul, Nat.reduceAdd, String.reduceEq, errE_0, ints_one, ints_sh, ml60 rl]
    refine hQ .normal _ ?_; clear hQ Q
    refine TS.seq (TS.of [1] fun Q hQ => ?_)
    simp only [go_sem, Nat.reduceEqDiff, Nat.reduceBEq, Int.reduceToNat, Int.reduceLT, Int.reduceLE, Int.reduceEq, Nat.reduceLeDiff, Nat.reduceLT, Nat.reduceMul, Nat.reduceAdd, String.reduceEq, encD, List.append_nil, le60 f60, tk60 f60, ints_sh]
    refine cal_eq (k2 _) ?_
    simp only [go_sem, Nat.reduceEqDiff, Nat.reduceBEq, Int.reduceToNat, Int.reduceLT, Int.reduceLE, Int.reduceEq, Nat.reduceLeDiff, Nat.reduceLT, Nat.reduceMul, Nat.reduceAdd, String.reduceEq, errE_0, ints_one, ints_sh, ml60 rl]
    refine hQ .normal _ ?_; clear hQ Q
    refine TS.of [] fun Q hQ => ?_
    simp only [go_sem, Nat.reduceEqDiff, Nat.reduceBEq, Int.reduceToNat, Int.reduceLT, Int.reduceLE, Int.reduceEq, Nat.reduceLeDiff, Nat.reduceLT, Nat.reduceMul, Nat.reduceAdd, String.reduceEq, errE_0, List.append_nil, ints_pg, rl, le60 rl, tk60 rl, ints_sh, eq_self, decide_true]
    refine cal_eq (hz _) ?_
    simp only [go_sem, Nat.reduceEqDiff, Nat.reduceBEq, Int.reduceToNat, Int.reduceLT, Int.reduceLE, Int.reduceEq, Nat.reduceLeDiff, Nat.reduceLT, Nat.reduceMul, Nat.reduceAdd, String.reduceEq]
    refine cal_eq (hz _) ?_
    simp only [go_sem, Nat.reduceEqDiff, Nat.reduceBEq, Int.reduceToNat, Int.reduceLT, Int.reduceLE, Int.reduceEq, Nat.reduceLeDiff, Nat.reduceLT, Nat.reduceMul, Nat.reduceAdd, String.reduceEq, eq_self, decide_true]
    refine hQ .ret _ ?_; clear hQ Q; refine post_ret _ _ (bb true) ?_ ?_ (DropW.tail0 _ rfl) ⟨rfl, rfl⟩
    · simp only [go_sem, Nat.reduceEqDiff, Nat.reduceBEq, Int.reduceToNat, Int.reduceLT, Int.reduceLE, Int.reduceEq, Nat.reduceLeDiff, Nat.reduceLT, Nat.reduceMul, Nat.reduceAdd, String.reduceEq]
    · rfl
  · rw [errE_2] at hz
    refine TS.seq (TS.of [1] fun Q hQ => ?_)
    simp only [go_sem, Nat.reduceEqDiff, Nat.reduceBEq, Int.reduceToNat, Int.reduceLT, Int.reduceLE, Int.reduceEq, Nat.reduceLeDiff, Nat.reduceLT, Nat.reduceMul, Nat.reduceAdd, String.reduceEq, encD, List.append_nil, le60 f60, tk60 f60, ints_sh]
    refine cal_eq (k1 _) ?_
    simp only [go_sem, Nat.reduceEqDiff, Nat.reduceBEq, Int.reduceToNat, Int.reduceLT, Int.reduceLE, Int.reduceEq, Nat.reduceLeDiff, Nat.reduceLT, Nat.reduceMul, Nat.reduceAdd, String.reduceEq, errE_2, ints_one, ints_sh, ml60 rl]
    refine hQ .normal _ ?_; clear hQ Q
    refine TS.seq (TS.of [1] fun Q hQ => ?_)
    simp only [go_sem, Nat.reduceEqDiff, Nat.reduceBEq, Int.reduceToNat, Int.reduceLT, Int.reduceLE, Int.reduceEq, Nat.reduceLeDiff, Nat.reduceLT, Nat.reduceMul, Nat.reduceAdd, String.reduceEq, encD, List.append_nil, le60 f60, tk60 f60, ints_sh]
    refine cal_eq (k2 _) ?_
    simp only [go_sem, Nat.reduceEqDiff, Nat.reduceBEq, Int.reduceToNat, Int.reduceLT, Int.reduceLE, Int.reduceEq, Nat.reduceLeDiff, Nat.reduceLT, Nat.reduceMul, Nat.reduceAdd, String.reduceEq, errE_2, ints_one, ints_sh, ml60 rl]
    refine hQ .normal _ ?_; clear hQ Q
    refine TS.of [] fun Q hQ => ?_
    simp only [go_sem, Nat.reduceEqDiff, Nat.reduceBEq, Int.reduceToNat, Int.reduceLT, Int.reduceLE, Int.reduceEq, Nat.reduceLeDiff, Nat.reduceLT, Nat.reduceMul, Nat.reduceAdd, String.reduceEq, errE_2, List.append_nil, ints_pg, rl, le60 rl, tk60 rl, ints_sh, eq_self, decide_true]
    refine cal_eq (hz _) ?_
    simp only [go_sem, Nat.reduceEqDiff, Nat.reduceBEq, Int.reduceToNat, Int.reduceLT, Int.reduceLE, Int.reduceEq, Nat.reduceLeDiff, Nat.reduceLT, Nat.reduceMul, Nat.reduceAdd, String.reduceEq]
    refine cal_eq (hz _) ?_
    simp only [go_sem, Nat.reduceEqDiff, Nat.reduceBEq, Int.reduceToNat, Int.reduceLT, Int.reduceLE, Int.reduceEq, Nat.reduceLeDiff, Nat.reduceLT, Nat.reduceMul, Nat.reduceAdd, String.reduceEq, eq_self, decide_true]
    refine hQ .ret _ ?_; clear hQ Q; refine post_ret _ _ (bb true) ?_ ?_ (DropW.tail0 _ rfl) ⟨rfl, rfl⟩
    · simp only [go_sem, Nat.reduceEqDiff, Nat.reduceBEq, Int.reduceToNat, Int.reduceLT, Int.reduceLE, Int.reduceEq, Nat.reduceLeDiff, Nat.reduceLT, Nat.reduceMul, Nat.reduceAdd, String.reduceEq]
    · rfl
end Go.Proofs.Ytphjldhdnmoolaa.A
/- For every input InvertAgain answers true: an operation turned twice does what its statements do. -/
namespace Go.Proofs.Ytphjldhdnmoolaa.invertAgain
open Go Go.ChangeShapes Go.WideShapes Go.ChangeAt Go.RowKit Go.Joins Go.Proofs.Ytphjldhdnmoolaa.A
set_option maxRecDepth 100000 in
theorem lifted (os : Os) (started : os.Started) (H : Type) (enc : TypeId × Value → H) :
    ReturnsInHanded {} Try.checked os 4 .any (Rows.invertAgainSpec.pre6 enc Try.prog Try.f4 Rows.invertAgainRow.domain false) (Rows.invertAgainSpec.post enc Try.prog Try.f4 false true false false) := by
  refine returnsInHanded_of_change_sized (C := Try.checked) own started (by kernel_rfl) Try.func4
    (ChangeSpec.witness6 (enc := enc) (C := Try.checked) false ⟨#[], #[.agg #[.string ByteArray.empty, .slice none 0 0, .slice none 0 0]], []⟩ 8 (by kernel_rfl) (by kernel_rfl) (by kernel_rfl) (by kernel_rfl)) ?_
  intro W base args ds gs before hval0 hW hcnd hsz0 _
  have hsz : (DataW.weightsEach Try.prog (Try.f4.params.toList ++ Rows.invertAgainSpec.plain.varTypes Try.prog) (ds ++ gs)).all (· ≤ reachBytes) = true := hsz0
  have hval : ∀ (j : Nat) t v, Try.f4.params[j]? = some t → args[j]? = some v → Value.okWide Try.prog W .any base t v := hval0
  have hW' := hW
  obtain ⟨p, q, hA0, hV, rfl, hfz, hnd⟩ := hW
  have hA : DataW.TrodAll enc Try.prog W 0 (fun _ => true) true Try.f4.params.toList args.toList ds p := hA0
  rw [Try.params4] at hA hval hsz
  obtain ⟨v0, vs0, d0, ds0, p0, q0, hargs, rfl, rfl, h0, r0⟩ := trodAll_cons hA
  obtain ⟨rfl, rfl, rfl⟩ := trodAll_nil r0
  obtain rfl : args = #[v0] := by cases args; simp_all
  obtain ⟨rfl, rfl⟩ := trodVars_none hV
  have k0 := h0
  obtain ⟨u0_0, u0_1, u0_2, y0_0, y0_1, y0_2, m0, rfl, hd0, hp0, g0_0, g0_1, g0_2⟩ := open_agg3 Try.underlying39 (by kernel_rfl) (by kernel_rfl) (hval 0 39 v0 rfl rfl) h0
  have hsz0 : (DataW.weightsEach Try.prog [9, 37, 37] [y0_0.1, y0_1.1, y0_2.1]).all (· ≤ reachBytes) = true := by
    refine List.all_eq_true.2 (fun z hz => ?_)
    have hz' : z ∈ DataW.weights Try.prog 39 d0 := by rw [hd0]; simpa [DataW.weights, Try.underlying39] using hz
    exact List.all_eq_true.1 hsz _ (DataW.weights_mem_each (j := 0) (t := 39) (d := d0) rfl rfl z hz')
  obtain ⟨a0_0, e0_0, hx0_0, w0_0⟩ := DataW.trod_string Try.underlying9 g0_0
  simp only [List.cons.injEq, and_true] at e0_0
  subst e0_0
  obtain ⟨A0_1, l0_1, c0_1, hcs0_1, lc0_1, hC0_1, hw0_1, sz0_1⟩ := rel_ints Try.underlying37 Try.underlying3 (by kernel_rfl) g0_1 hsz0 (j := 1) (t := 37) rfl rfl (B := 8) (by kernel_rfl)
  simp only [List.cons.injEq, and_true] at hcs0_1
  subst hcs0_1
  obtain ⟨A0_2, l0_2, c0_2, hcs0_2, lc0_2, hC0_2, hw0_2, sz0_2⟩ := rel_ints Try.underlying37 Try.underlying3 (by kernel_rfl) g0_2 hsz0 (j := 2) (t := 37) rfl rfl (B := 8) (by kernel_rfl)
  simp only [List.cons.injEq, and_true] at hcs0_2
  subst hcs0_2
  clear hA0 hval0 hsz0
  refine (calls_of_sim (iagain_law _ _ _ _ (by omega) (fun n hn => (int_wf (hw0_1 n hn)).1) (fun n hn => by have := (int_wf (hw0_1 n hn)).2; omega)) (relL_cons ⟨_, rfl, (relL_cons (rel_v _ _ _) (relL_cons hC0_1 (relL_cons hC0_2 (relL_nil _ _))))⟩ (relL_nil _ _))).mono fun e W' ⟨he, bel⟩ => ?_
  subst he
  exact ⟨_, rfl, _, _, _, [], _, [], hW', trodAll_mk1 (shut_bool Try.underlying4 _), (trodAll_cons_mk (Below.trod laidOut (by kernel_rfl) (of_decide_eq_true (by kernel_rfl)) k0 bel (places_lt k0)) trodAll_mk0), rfl, bel.frame _, fun h => by cases h⟩
set_option maxRecDepth 100000
theorem rec1 : Try.prog.recurses 4 = true := fact_recurses 4 90 (by kernel_rfl) (by kernel_rfl) (by kernel_rfl)
theorem q0 : (Rows.invertAgainRow.wf (OpenSpec.ofChange Rows.invertAgainSpec)) = true := by kernel_rfl
theorem q3 : (Try.f4.params.all (Try.prog.readableRec ·)) = true := by kernel_rfl
theorem q4 : (namedTie Try.prog Rows.invertAgainRow.named Rows.invertAgainSpec.vars) = true := by kernel_rfl
theorem q5 : (Rows.invertAgainRow.stops == []) = true := by kernel_rfl
theorem q7 : (Rows.invertAgainRow.knobs == []) = true := by kernel_rfl
theorem q9 : (Rows.invertAgainRow.inPlace == Try.prog.inPlace 4) = true := by kernel_rfl
theorem q10 : (Rows.invertAgainRow.unfollowed == Try.prog.unfollowed 4) = true := by kernel_rfl
theorem q11 : (Rows.invertAgainRow.recurses == Try.prog.recurses 4) = true := by rw [rec1]; kernel_rfl
theorem q12 : (Rows.invertAgainRow.named == Try.prog.varsNamed 4) = true := by kernel_rfl
theorem q13 : (Rows.invertAgainRow.maps == (Try.f4.params.toList ++ Rows.invertAgainSpec.plain.varTypes Try.prog).any (Try.prog.mapsRec ·)) = true := by kernel_rfl
theorem q14 : (Rows.invertAgainRow.ifaces == (Try.f4.params.toList ++ Rows.invertAgainSpec.plain.varTypes Try.prog).any (Try.prog.ifacesRec ·)) = true := by kernel_rfl
theorem q15 : (Rows.invertAgainRow.mapsOut == Try.prog.mapsAmong Try.f4.resultTypes.toList) = true := by kernel_rfl
theorem q16 : (Rows.invertAgainRow.loops == (Try.f4.params.toList ++ Rows.invertAgainSpec.plain.varTypes Try.prog).any (Try.prog.loopsFrom ·)) = true := by kernel_rfl
theorem q17 : (Rows.invertAgainRow.wideKeys == (Try.f4.params.toList ++ Rows.invertAgainSpec.plain.varTypes Try.prog ++ Try.f4.resultTypes.toList).any (Try.prog.wideKeysFrom ·)) = true := by kernel_rfl
theorem q18 : (Rows.invertAgainSpec.vars.all (Try.prog.varReadable ·)) = true := by kernel_rfl
theorem q19 : (Try.f4.resultTypes.all (fun t => Try.prog.readableRec t && decide (t < Try.prog.types.size))) = true := by kernel_rfl
theorem q20 : (Rows.invertAgainRow.ifacesOut == Try.f4.resultTypes.toList.any (Try.prog.ifacesRec ·)) = true := by kernel_rfl
theorem q21 : (Rows.invertAgainRow.loopsOut == Try.f4.resultTypes.toList.any (Try.prog.loopsFrom ·)) = true := by kernel_rfl
theorem q23 : (Rows.invertAgainRow.shortTexts.isNone) = true := by kernel_rfl
theorem q28 : (Rows.invertAgainRow.kinds == (if Rows.invertAgainRow.domain.isEmpty then [] else Try.f4.params.toList.map fun t => match Try.prog.underlying t with | some (.int k) => some k | _ => none)) = true := by kernel_rfl
theorem q29 : (Rows.invertAgainRow.pinned == Rows.invertAgainRow.pinnedBy) = true := by kernel_rfl
theorem q30 : (Rows.invertAgainRow.veiled == (Try.f4.params.toList ++ Rows.invertAgainSpec.plain.varTypes Try.prog ++ Try.f4.resultTypes.toList).any (Try.prog.veiledRec ·)) = true := by kernel_rfl
theorem q31 : (Rows.invertAgainRow.veiledFits Try.prog Try.f4.params.toList (Try.f4.params.toList ++ Rows.invertAgainSpec.plain.varTypes Try.prog ++ Try.f4.resultTypes.toList)) = true := by kernel_rfl
theorem joined : joinedFacts Try.prog 4 Try.f4 Rows.invertAgainSpec Rows.invertAgainRow = true := (and2 (and2 (and2 (and2 (and2 (and2 (and2 (and2 (and2 (and2 (and2 (and2 (and2 (and2 (and2 (and2 (and2 (and2 (and2 (and2 (and2 (and2 (and2 (and2 (and2 (and2 (and2 (and2 (and2 (and2 (and2 q0 fact_laid) fact_maps) q3) q4) q5) fact_stops) q7) fact_knobs) q9) q10) q11) q12) q13) q14) q15) q16) q17) q18) q19) q20) q21) fact_keys) q23) fact_heard) fact_enter) fact_lifted) fact_make) q28) q29) q30) q31)
theorem over : Rows.invertAgainRow.holds Try.pinned (OpenSpec.ofChange Rows.invertAgainSpec) :=
  OpenClaim.holds_of_wide 4 Try.f4 rfl rfl rfl rfl rfl rfl rfl ⟨rfl, rfl, rfl, rfl, rfl⟩ rfl rfl rfl rfl rfl (by kernel_rfl) Try.func4 joined
    (of_decide_eq_true (by kernel_rfl)) (by unfold Func.isWrapper; first | (rw [if_pos (by decide +kernel)]; kernel_rfl) | (rw [if_neg (by decide +kernel)]; exact ⟨rfl, rfl⟩))
    (fun os started H enc _ => lifted os started H enc)
theorem proved : Rows.InvertAgainSaid := over
#print axioms proved
end Go.Proofs.Ytphjldhdnmoolaa.invertAgain
namespace Go.Proofs.Ytphjldhdnmoolaa
/-- The row, under a short name, for the claim. -/
theorem invertAgain_holds : Rows.InvertAgainSaid := invertAgain.proved
end Go.Proofs.Ytphjldhdnmoolaa
