/- Joined: B14, B15, B16, B17, B18, B19, B20, B21, R0, B1, R1, B22, E0, E1, E2 -/
import Derived.Test.YtphjldhdnmoolaaJBase2
import Derived.Laws.Externs
import Derived.MapKept
import Derived.WalkKit
import Derived.Maps.Own
import Derived.RowKit
set_option linter.unusedVariables false
set_option linter.unusedSimpArgs false
/- The walks of some functions over the abstract machine. -/
namespace Go.Proofs.Ytphjldhdnmoolaa.A
open Go
structure TokP (s : Bytes) (l : List Tok) : Prop where
  kind : ∀ t ∈ l, t.k ≠ 4
  size : ∀ t ∈ l, t.s.size ≤ s.size
theorem kindT_ne4 (t : Bytes) (b : Bool) : kindT t b ≠ 4 := by
  unfold kindT; split
  · decide
  · split
    · decide
    · split <;> decide
theorem toksF_ok (s : Bytes) : ∀ (f p : Nat) (acc : List Tok), p ≤ s.size → s.size + 1 ≤ f + p → acc.length ≤ p → TokP s acc → (toksF s f p acc).2.1 = 0 → ∃ l, (toksF s f p acc).1 = l ++ [⟨4, ByteArray.empty, s.size⟩] ∧ l.length ≤ s.size ∧ TokP s l
  | 0, p, acc, hp, hf, _, _, _ => by omega
  | f + 1, p, acc, hp, hf, hl, hP, hc => by
    unfold toksF at hc ⊢
    cases hb : (L s)[p]? with
    | none => rw [hb] at hc; exact ⟨acc, rfl, by omega, hP⟩
    | some b =>
      have hlt : p < s.size := by rw [← L_len]; exact (List.getElem?_eq_some_iff.1 hb).1
      rw [hb] at hc
      dsimp only at hc ⊢
      by_cases h1 : b.toNat = 32 ∨ b.toNat = 9 ∨ b.toNat = 10
      · rw [if_pos h1] at hc ⊢
        exact toksF_ok s f (p + 1) acc (by omega) (by omega) (by omega) hP hc
      · rw [if_neg h1] at hc ⊢
        by_cases h2 : b.toNat = 35
        · rw [if_pos h2] at hc ⊢
          have h3 := nlp_le (s := s) (k := p) hp
          have h4 : p < nlp s p := by
            rw [nlp_step hb, if_neg (by omega)]
            have := (nlp_le (s := s) (k := p + 1) (by omega)).1
            omega
          exact toksF_ok s f _ acc h3.2 (by omega) (by omega) hP hc
        · rw [if_neg h2] at hc ⊢
          have hle := lastE_le (s := s) (a := p) (e := s.size) hp
          generalize lastE s p s.size = e at hc hle ⊢
          by_cases h3 : kindT (s.extract p e) (decide (p < e)) = 0
          · rw [if_pos h3] at hc; exact absurd hc (by simp)
          · rw [if_neg h3] at hc ⊢
            have hpe := kind_ne h3 hle.2
            refine toksF_ok s f e _ hle.2 (by omega) (by simp; omega) ⟨?_, ?_⟩ hc
            · intro t ht
              rcases List.mem_append.1 ht with h | h
              · exact hP.kind t h
              · simp at h; subst h; exact kindT_ne4 _ _
            · intro t ht
              rcases List.mem_append.1 ht with h | h
              · exact hP.size t h
              · simp at h; subst h; dsimp only; rw [ext_size]; omega
theorem tokens_ok {s : Bytes} (h : (tokens s).2.1 = 0) : ∃ l, (tokens s).1 = l ++ [⟨4, ByteArray.empty, s.size⟩] ∧ l.length ≤ 480 ∧ s.size ≤ 480 ∧ TokP s l := by
  unfold tokens at h ⊢
  by_cases hb : 480 < s.size
  · rw [if_pos hb] at h; exact absurd h (by decide)
  · rw [if_neg hb] at h ⊢
    obtain ⟨l, h1, h2, h3⟩ := toksF_ok s (s.size + 1) 0 [] (by omega) (by omega) (by simp) ⟨by simp, by simp⟩ h
    exact ⟨l, h1, by omega, by omega, h3⟩
theorem Toks.of {l : List Tok} {t : Tok} (ht : t.k = 4) (hl : l.length ≤ 480) (hk : ∀ t ∈ l, t.k ≠ 4) : Toks (l ++ [t]) := by
  refine ⟨by simp, by simp; omega, fun p h0 h1 hk4 => ?_⟩
  obtain ⟨n, rfl⟩ := nat_of h0
  simp only [List.length_append, List.length_cons, List.length_nil] at h1 ⊢
  by_cases e : n = l.length
  · exfalso; apply hk4; subst e; unfold tk; simp [ht]
  · omega
theorem tk_size {s : Bytes} {l : List Tok} {t : Tok} (hP : TokP s l) (ht : t.s.size ≤ s.size) (hs : s.size < 900000) (p : Int) : (tk (l ++ [t]) p).s.size < 900000 := by
  unfold tk
  rw [List.getD_eq_getElem?_getD]
  cases h : (l ++ [t])[p.toNat]? with
  | none => simp
  | some x =>
    simp only [Option.getD_some]
    rcases List.mem_append.1 (List.mem_of_getElem? h) with h | h
    · have := hP.size x h; omega
    · simp at h; subst h; omega
set_option maxRecDepth 100000 in
set_option maxHeartbeats 4000000 in
theorem parse_sim (m : Mem) (s : Bytes) (hs : s.size < 900000) : Sim 22 [ss s] m (fun r m' => r = .tup [.agg (encD (parse s).1), ii (parse s).2.1, ii (parse s).2.2] ∧ m' = m) := by
  refine Sim.ofS 48 [.cell 2 27, .tmp 3, .tmp 4] Try.func22 rfl rfl rfl (by simp) fun wr => ?_
  simp only [go_sem, Nat.reduceEqDiff, Nat.reduceBEq, Int.reduceToNat, Int.reduceLT, Int.reduceLE, Int.reduceEq, Nat.reduceLeDiff, Nat.reduceLT, Nat.reduceMul, Nat.reduceAdd, String.reduceEq]
  have hgo : parse s = parse s := rfl
  conv at hgo => rhs; unfold parse
  dsimp only at hgo
  refine TS.of [] fun Q hQ => ?_
  simp only [go_sem, Nat.reduceEqDiff, Nat.reduceBEq, Int.reduceToNat, Int.reduceLT, Int.reduceLE, Int.reduceEq, Nat.reduceLeDiff, Nat.reduceLT, Nat.reduceMul, Nat.reduceAdd, String.reduceEq]
  refine cal_eq (tokens_sim _ s hs) ?_
  by_cases hc : (tokens s).2.1 = 0
  · rw [if_neg (by simp [hc])] at hgo
    obtain ⟨l0, h1, h2, h2', h3⟩ := tokens_ok hc
    have T : Toks (tokens s).1 := by rw [h1]; exact Toks.of rfl h2 h3.kind
    have hsz : ∀ p, (tk (tokens s).1 p).s.size < 900000 := by rw [h1]; exact tk_size h3 (by simp) hs
    have hd := defP_sim T hsz
    have hok := defP_ok T
    generalize (tokens s).1 = l at hgo T hsz hd hok ⊢
    generalize defP l = D at hgo hd hok ⊢
    have hl := T.lt
    obtain ⟨hk1, hk2⟩ := id hok
    simp only [go_sem, Nat.reduceEqDiff, Nat.reduceBEq, Int.reduceToNat, Int.reduceLT, Int.reduceLE, Int.reduceEq, Nat.reduceLeDiff, Nat.reduceLT, Nat.reduceMul, Nat.reduceAdd, String.reduceEq, hc]
    refine cal_eq (hd _) ?_
    simp only [go_sem, Nat.reduceEqDiff, Nat.reduceBEq, Int.reduceToNat, Int.reduceLT, Int.reduceLE, Int.reduceEq, Nat.reduceLeDiff, Nat.reduceLT, Nat.reduceMul, Nat.reduceAdd, String.reduceEq, encD]
    by_cases h0 : 0 ≤ D.2
    · obtain ⟨n, hn⟩ := nat_of h0
      rw [hn] at hk1 hk2 hgo h0 ⊢
      have hlt : n < l.length := by omega
      have hat := encK_at (tk_at hlt)
      have hl3 := encK_lt hlt
      have hnn : ¬ (n : Int) < 0 := by omega
      by_cases h4 : (tk l n).k = 4
      · have hf : fixP l n = n := by simp [fixP, h4]
        rw [hf, if_neg hnn] at hgo
        simp only [go_sem, Nat.reduceEqDiff, Nat.reduceBEq, Int.reduceToNat, Int.reduceLT, Int.reduceLE, Int.reduceEq, Nat.reduceLeDiff, Nat.reduceLT, Nat.reduceMul, Nat.reduceAdd, String.reduceEq, h0, hlt, hat, hl3, h4, hnn]
        refine hQ .ret _ ?_; clear hQ Q; refine post_ret _ _ (.tup [.agg (encD D.1), ii 0, ii 0]) ?_ ?_ (DropW.tail0 _ rfl) ⟨?_, rfl⟩
        · simp only [go_sem, Nat.reduceEqDiff, Nat.reduceBEq, Int.reduceToNat, Int.reduceLT, Int.reduceLE, Int.reduceEq, Nat.reduceLeDiff, Nat.reduceLT, Nat.reduceMul, Nat.reduceAdd, String.reduceEq, encD] <;> rfl
        · simp [IV.np, npL, npE, npS, npEs, npTs, np_sh]
        · rw [hgo]
      · have hf : fixP l n = bad n := by simp [fixP, h4]
        have hbn : bad (n : Int) < 0 := by unfold bad; omega
        have hbb : -1 - bad (n : Int) = n := by unfold bad; omega
        have hwb : IntKind.i64.wrap (-1 - bad (n : Int)) = n := by rw [hbb]; exact wrap_small (by omega) (by omega)
        rw [hf, if_pos hbn, hbb] at hgo
        simp only [go_sem, Nat.reduceEqDiff, Nat.reduceBEq, Int.reduceToNat, Int.reduceLT, Int.reduceLE, Int.reduceEq, Nat.reduceLeDiff, Nat.reduceLT, Nat.reduceMul, Nat.reduceAdd, String.reduceEq, h0, hlt, hat, hl3, h4, hnn]
        refine cal_eq (bad_sim _ n (by omega)) ?_
        simp only [go_sem, Nat.reduceEqDiff, Nat.reduceBEq, Int.reduceToNat, Int.reduceLT, Int.reduceLE, Int.reduceEq, Nat.reduceLeDiff, Nat.reduceLT, Nat.reduceMul, Nat.reduceAdd, String.reduceEq, hbn]
        refine drn_of ⟨[46], [], []⟩ [0, 0, 0, 4, 14, 30, 62, 1, 129, 511] (by kernel_rfl) ?_
        simp only [go_sem, Nat.reduceEqDiff, Nat.reduceBEq, Int.reduceToNat, Int.reduceLT, Int.reduceLE, Int.reduceEq, Nat.reduceLeDiff, Nat.reduceLT, Nat.reduceMul, Nat.reduceAdd, String.reduceEq, hbn, hwb, h0, hlt, hat, hl3]
        refine hQ .ret _ ?_; clear hQ Q; refine post_ret _ _ (.tup [.agg (encD D0), ii 8, ii (tk l n).p]) ?_ ?_ (DropW.tail0 _ rfl) ⟨?_, rfl⟩
        · simp only [go_sem, Nat.reduceEqDiff, Nat.reduceBEq, Int.reduceToNat, Int.reduceLT, Int.reduceLE, Int.reduceEq, Nat.reduceLeDiff, Nat.reduceLT, Nat.reduceMul, Nat.reduceAdd, String.reduceEq, encD] <;> rfl
        · simp [IV.np, npL, npE, npS, npEs, npTs, np_sh]
        · rw [hgo]
    · have hneg : D.2 < 0 := by omega
      have hf : fixP l D.2 = D.2 := by simp [fixP, h0]
      rw [hf, if_pos hneg] at hgo
      obtain ⟨n, hn⟩ := nat_of (p := -1 - D.2) (by omega)
      have hlt : n < l.length := by omega
      have hat := encK_at (tk_at hlt)
      have hl3 := encK_lt hlt
      have hwb : IntKind.i64.wrap (-1 - D.2) = n := by rw [hn]; exact wrap_small (by omega) (by omega)
      have h0' : (0 : Int) ≤ n := by omega
      rw [hn] at hgo
      simp only [go_sem, Nat.reduceEqDiff, Nat.reduceBEq, Int.reduceToNat, Int.reduceLT, Int.reduceLE, Int.reduceEq, Nat.reduceLeDiff, Nat.reduceLT, Nat.reduceMul, Nat.reduceAdd, String.reduceEq, h0, hneg]
      refine drn_of ⟨[46], [], []⟩ [0, 0, 0, 4, 14, 30, 62, 1, 129, 511] (by kernel_rfl) ?_
      simp only [go_sem, Nat.reduceEqDiff, Nat.reduceBEq, Int.reduceToNat, Int.reduceLT, Int.reduceLE, Int.reduceEq, Nat.reduceLeDiff, Nat.reduceLT, Nat.reduceMul, Nat.reduceAdd, String.reduceEq, hneg, hwb, h0', hlt, hat, hl3]
      refine hQ .ret _ ?_; clear hQ Q; refine post_ret _ _ (.tup [.agg (encD D0), ii 8, ii (tk l n).p]) ?_ ?_ (DropW.tail0 _ rfl) ⟨?_, rfl⟩
      · simp only [go_sem, Nat.reduceEqDiff, Nat.reduceBEq, Int.reduceToNat, Int.reduceLT, Int.reduceLE, Int.reduceEq, Nat.reduceLeDiff, Nat.reduceLT, Nat.reduceMul, Nat.reduceAdd, String.reduceEq, encD] <;> rfl
      · simp [IV.np, npL, npE, npS, npEs, npTs, np_sh]
      · rw [hgo]
  · rw [if_pos (by simp [hc])] at hgo
    simp only [go_sem, Nat.reduceEqDiff, Nat.reduceBEq, Int.reduceToNat, Int.reduceLT, Int.reduceLE, Int.reduceEq, Nat.reduceLeDiff, Nat.reduceLT, Nat.reduceMul, Nat.reduceAdd, String.reduceEq, hc]
    refine hQ .ret _ ?_; clear hQ Q; refine post_ret _ _ (.tup [.agg (encD D0), ii (tokens s).2.1, ii (tokens s).2.2]) ?_ ?_ (DropW.tail0 _ rfl) ⟨?_, rfl⟩
    · simp only [go_sem, Nat.reduceEqDiff, Nat.reduceBEq, Int.reduceToNat, Int.reduceLT, Int.reduceLE, Int.reduceEq, Nat.reduceLeDiff, Nat.reduceLT, Nat.reduceMul, Nat.reduceAdd, String.reduceEq, encD] <;> rfl
    · simp [IV.np, npL, npE, npS, npEs, npTs, np_sh]
    · rw [hgo]
end Go.Proofs.Ytphjldhdnmoolaa.A
/- The walks of some functions over the abstract machine. -/
namespace Go.Proofs.Ytphjldhdnmoolaa.A
open Go
/-! maps from names to numbers -/
abbrev Ent := Bytes × Int × Nat
def encN (e : Ent) : MapEntry := ⟨.string e.1, .int .i64 e.2.1, e.2.2⟩
def encM (l : List Ent) : Array MapEntry := (l.map encN).toArray
def fnd (s : Bytes) : List Ent → Nat → Option (Nat × Int)
  | [], _ => none
  | e :: l, i => if s = e.1 then some (i, e.2.1) else fnd s l (i + 1)
def fndV (s : Bytes) (l : List Ent) : Option (Nat × Value) := (fnd s l 0).map fun p => (p.1, .int .i64 p.2)
def getM (s : Bytes) : List Ent → Option Int
  | [] => none
  | e :: l => if s = e.1 then some e.2.1 else getM s l
def repl (s : Bytes) (v : Int) : List Ent → List Ent
  | [] => []
  | e :: l => if s = e.1 then (s, v, e.2.2) :: l else e :: repl s v l
def putM (s : Bytes) (v : Int) (l : List Ent) (c : Nat) : List Ent × Nat := match getM s l with
  | some _ => (repl s v l, c)
  | none => (l ++ [(s, v, c)], c + 1)
def delM (s : Bytes) : List Ent → List Ent
  | [] => []
  | e :: l => if s = e.1 then l else e :: delM s l
theorem fnd_get (s : Bytes) : ∀ (l : List Ent) (i : Nat), (fnd s l i).map (·.2) = getM s l
  | [], i => rfl
  | e :: l, i => by
    unfold fnd getM
    split
    · rfl
    · exact fnd_get s l (i + 1)
theorem fnd_shift (s : Bytes) : ∀ (l : List Ent) (i : Nat), fnd s l (i + 1) = (fnd s l i).map fun p => (p.1 + 1, p.2)
  | [], i => rfl
  | e :: l, i => by
    unfold fnd
    split
    · rfl
    · exact fnd_shift s l (i + 1)
theorem bq (a b : Bytes) : (a == b) = decide (a = b) := by
  rw [Bool.eq_iff_iff]; simp only [decide_eq_true_eq]
  cases a; cases b
  constructor
  · intro h; exact congrArg ByteArray.mk (eq_of_beq (α := Array UInt8) h)
  · intro h; cases h; exact beq_self_eq_true (α := Array UInt8) _
theorem findNow_enc (s : Bytes) : ∀ (l : List Ent) (i : Nat), Instr.findNow .string (.string s) (l.map encN) i = some ((fnd s l i).map fun p => (p.1, .int .i64 p.2))
  | [], i => rfl
  | e :: l, i => by
    unfold fnd
    simp only [List.map_cons, Instr.findNow]
    by_cases h : s = e.1
    · subst h
      rw [show Instr.sameNow .string (.string e.1) (encN e).key = some true by show some (e.1 == e.1) = some true; rw [bq]; simp]
      simp [encN]
    · rw [show Instr.sameNow .string (.string s) (encN e).key = some false by show some (s == e.1) = some false; rw [bq]; simp [h]]
      rw [if_neg h]
      exact findNow_enc s l (i + 1)
theorem mlook_enc (s : Bytes) (l : List Ent) : mlook (encM l) s = some (fndV s l) := findNow_enc s l 0
theorem encM_size (l : List Ent) : (encM l).size = l.length := by simp [encM]
theorem mval_enc (s : Bytes) (l : List Ent) : mval (fndV s l) = .int .i64 ((getM s l).getD 0) := by
  unfold fndV
  rw [← fnd_get s l 0]
  cases fnd s l 0 <;> rfl
theorem some_enc (s : Bytes) (l : List Ent) : (fndV s l).isSome = (getM s l).isSome := by
  unfold fndV
  rw [← fnd_get s l 0]
  cases fnd s l 0 <;> rfl
theorem modify_enc (s : Bytes) (v : Int) : ∀ (l : List Ent) (i : Nat) (x : Int), fnd s l 0 = some (i, x) → (l.map encN).modify i (fun e => { e with key := .string s, val := .int .i64 v }) = (repl s v l).map encN
  | [], i, x, h => by cases h
  | e :: l, i, x, h => by
    unfold fnd at h
    unfold repl
    split at h
    · rename_i hs; cases h; rw [if_pos hs]; rfl
    · rename_i hs
      rw [if_neg hs]
      rw [fnd_shift] at h
      cases hf : fnd s l 0 with
      | none => rw [hf] at h; cases h
      | some p =>
        obtain ⟨j, y⟩ := p
        rw [hf] at h
        cases h
        simp only [List.map_cons, List.modify_succ_cons]
        rw [modify_enc s v l j _ hf]
theorem erase_enc (s : Bytes) : ∀ (l : List Ent) (i : Nat) (x : Int), fnd s l 0 = some (i, x) → (l.map encN).eraseIdx i = (delM s l).map encN
  | [], i, x, h => by cases h
  | e :: l, i, x, h => by
    unfold fnd at h
    unfold delM
    split at h
    · rename_i hs; cases h; rw [if_pos hs]; rfl
    · rename_i hs
      rw [if_neg hs]
      rw [fnd_shift] at h
      cases hf : fnd s l 0 with
      | none => rw [hf] at h; cases h
      | some p =>
        obtain ⟨j, y⟩ := p
        rw [hf] at h
        cases h
        simp only [List.map_cons, List.eraseIdx_cons_succ]
        rw [erase_enc s l j _ hf]
theorem fnd_none {s : Bytes} {l : List Ent} : getM s l = none ↔ fnd s l 0 = none := by
  rw [← fnd_get s l 0]; cases fnd s l 0 <;> simp
theorem mupd_enc (s : Bytes) (v : Int) (l : List Ent) (c : Nat) : mupd (encM l) c s (.int .i64 v) (fndV s l) = (encM (putM s v l c).1, (putM s v l c).2) := by
  unfold fndV putM
  cases hf : fnd s l 0 with
  | none => rw [fnd_none.2 hf]; simp [mupd, encM, encN]
  | some p =>
    obtain ⟨i, x⟩ := p
    have : ∃ y, getM s l = some y := ⟨x, by rw [← fnd_get s l 0, hf]; rfl⟩
    obtain ⟨y, hy⟩ := this
    rw [hy]
    simp only [Option.map_some, mupd, encM]
    rw [← modify_enc s v l i x hf]
    simp
theorem delM_none {s : Bytes} : ∀ {l : List Ent}, getM s l = none → delM s l = l
  | [], h => rfl
  | e :: l, h => by
    unfold getM at h; unfold delM
    split at h
    · cases h
    · rename_i hs; rw [if_neg hs, delM_none h]
theorem mdel_enc (s : Bytes) (l : List Ent) : mdel (encM l) (fndV s l) = encM (delM s l) := by
  unfold fndV
  cases hf : fnd s l 0 with
  | none => rw [delM_none (fnd_none.2 hf)]; rfl
  | some p =>
    obtain ⟨i, x⟩ := p
    simp only [Option.map_some, mdel, encM]
    rw [← erase_enc s l i x hf]
    simp
theorem ment_enc {s : Bytes} {l : List Ent} {c : Nat} (h : getM s l = none) : ment (encM l) c s (fndV s l) = (encM (l ++ [(s, 0, c)]), c + 1) := by
  unfold fndV
  rw [fnd_none.1 h]
  simp [ment, encM, encN]
theorem born_enc {s : Bytes} {l : List Ent} {c : Nat} (h : getM s l = none) : bornAt (encM l) c (fndV s l) = c := by
  unfold fndV
  rw [fnd_none.1 h]
  rfl
theorem estore_enc {s : Bytes} {l : List Ent} {c : Nat} {v : Int} (h : ∀ e ∈ l, e.2.2 < c) : (encM (l ++ [(s, 0, c)])).findIdx? (fun e => decide ((e.born : Int) = c)) = some l.length ∧ ((encM (l ++ [(s, 0, c)])).modify l.length fun e => { e with val := .int .i64 v }) = encM (l ++ [(s, v, c)]) := by
  constructor
  · simp only [encM, List.findIdx?_toArray, List.map_append, List.map_cons, List.map_nil]
    rw [List.findIdx?_append]
    have : (l.map encN).findIdx? (fun e => decide ((e.born : Int) = c)) = none := by
      rw [List.findIdx?_eq_none_iff]
      intro e he
      obtain ⟨x, hx, rfl⟩ := List.mem_map.1 he
      have := h x hx
      show decide (((x.2.2 : Nat) : Int) = (c : Int)) = false
      exact decide_eq_false (by omega)
    rw [this]
    simp [encN]
  · simp only [encM, List.map_append, List.map_cons, List.map_nil]
    have : ∀ (a : List MapEntry) (x : MapEntry) (f : MapEntry → MapEntry), (a ++ [x]).modify a.length f = a ++ [f x] := by
      intro a x f
      induction a with
      | nil => rfl
      | cons y a ih => simp [ih]
    have h2 := this (l.map encN) (encN (s, 0, c)) (fun e => { e with val := .int .i64 v })
    rw [List.length_map] at h2
    simp only [List.modify_toArray]
    rw [h2]
    rfl
end Go.Proofs.Ytphjldhdnmoolaa.A
/- The walks of some functions over the abstract machine. -/
namespace Go.Proofs.Ytphjldhdnmoolaa.A
open Go
structure CS where
  kn : List Ent
  kc : Nat
  us : List Ent
  uc : Nat
  ft : Option (Int × Int)
  rd : Bool
  md : Int
  tn : Bool
def ftI : Option (Int × Int) → IV
  | none => .v (.pointer none)
  | some p => .ref [ii p.1, ii p.2]
abbrev cellsC (o : Nat) (cs : CS) : List IV := [.map o, .map (o + 1), ftI cs.ft, bb cs.rd, ii cs.md, ii 0, ii 0, bb cs.tn]
abbrev CM (B : List IObj) (cs : CS) (R : List IObj) : List IObj := B ++ (.map (encM cs.kn) cs.kc :: .map (encM cs.us) cs.uc :: .cells (cellsC B.length cs) :: R)
def SimC (f : FuncId) (args : List IV) (cs : CS) (r : IV) (cs' : CS) : Prop := ∀ (B R : List IObj) (rw_ : List Nat), Sim f (.ptr (B.length + 2) 0 :: args) ⟨CM B cs R, rw_⟩ (fun x m' => x = r ∧ m' = ⟨CM B cs' R, rw_⟩)
def CS.fail (code at_ : Int) (cs : CS) : CS := if cs.ft.isNone then { cs with ft := some (code, at_) } else cs
theorem ftI_none : ftI none = .v (.pointer none) := rfl
theorem ftI_some {p : Int × Int} : ftI (some p) = .ref [ii p.1, ii p.2] := rfl
theorem np_ft {no nr : Nat} : ∀ f, (ftI f).np no nr = true
  | none => rfl
  | some p => by simp [ftI, IV.np, npL]
theorem DropW.ck (B : List IObj) (cs cs' : CS) (R X : List IObj) (rw_ rs : List Nat) : DropW ⟨CM B cs R, rw_⟩ (B.length + (R.length + 3)) rw_.length ⟨CM B cs' (R ++ X), rw_ ++ rs⟩ ⟨CM B cs' R, rw_⟩ := by
  refine ⟨?_, by simp, by simp [CM], Nat.le_refl _, fun o x hx hl => ?_⟩
  · have : (CM B cs' (R ++ X)) = CM B cs' R ++ X := by simp [CM]
    simp only [this]
    rw [List.take_left' (by simp [CM])]
  · simp only [CM] at hx ⊢
    by_cases h1 : o < B.length
    · left; rw [List.getElem?_append_left h1] at hx ⊢; exact hx
    · rw [List.getElem?_append_right (by omega)] at hx ⊢
      generalize hk : o - B.length = k at hx ⊢
      match k, hx with
      | 0, hx => right; simp at hx; subst hx; rfl
      | 1, hx => right; simp at hx; subst hx; rfl
      | 2, hx =>
        right; simp at hx; subst hx
        simp [IObj.np, npL, IV.np, np_ft] <;> omega
      | k + 3, hx =>
        left
        simp only [List.getElem?_cons_succ] at hx ⊢
        rw [List.getElem?_append_left (by omega)] at hx
        exact hx
theorem DropW.ck0 (B : List IObj) (cs cs' : CS) (R : List IObj) (rw_ : List Nat) : DropW ⟨CM B cs R, rw_⟩ (B.length + (R.length + 3)) rw_.length ⟨CM B cs' R, rw_⟩ ⟨CM B cs' R, rw_⟩ := by
  have := DropW.ck B cs cs' R [] rw_ []
  simpa using this
theorem DropW.ckX (B : List IObj) (cs cs' : CS) (R : List IObj) (rw_ : List Nat) (X : List IObj) : DropW ⟨CM B cs R, rw_⟩ (B.length + (R.length + 3)) rw_.length ⟨CM B cs' (R ++ X), rw_⟩ ⟨CM B cs' R, rw_⟩ := by
  have := DropW.ck B cs cs' R X rw_ []
  simpa using this
set_option maxRecDepth 100000 in
set_option maxHeartbeats 4000000 in
theorem fail_sim (cs : CS) (code at_ : Int) : SimC 56 [ii code, ii at_] cs (.tup []) (cs.fail code at_) := by
  intro B R rw_
  refine Sim.ofS 18 [] Try.func56 rfl rfl rfl (by simp) fun wr => ?_
  simp only [go_sem, Nat.reduceEqDiff, Nat.reduceBEq, Int.reduceToNat, Int.reduceLT, Int.reduceLE, Int.reduceEq, Nat.reduceLeDiff, Nat.reduceLT, Nat.reduceMul, Nat.reduceAdd, String.reduceEq]
  cases hf : cs.ft with
  | none =>
    have hgo : cs.fail code at_ = { cs with ft := some (code, at_) } := by simp [CS.fail, hf]
    refine TS.of [15] fun Q hQ => ?_
    simp only [go_sem, Nat.reduceEqDiff, Nat.reduceBEq, Int.reduceToNat, Int.reduceLT, Int.reduceLE, Int.reduceEq, Nat.reduceLeDiff, Nat.reduceLT, Nat.reduceMul, Nat.reduceAdd, String.reduceEq, hf, ftI_none]
    refine hQ .normal _ ?_; exact post_end _ _ (.tup []) (by simp only [go_sem, Nat.reduceEqDiff, Nat.reduceBEq, Int.reduceToNat, Int.reduceLT, Int.reduceLE, Int.reduceEq, Nat.reduceLeDiff, Nat.reduceLT, Nat.reduceMul, Nat.reduceAdd, String.reduceEq]) rfl (DropW.ck0 B cs ({ cs with ft := some (code, at_) }) R rw_) ⟨rfl, by rw [hgo]⟩
  | some p =>
    have hgo : cs.fail code at_ = cs := by simp [CS.fail, hf]
    refine TS.of [15] fun Q hQ => ?_
    simp only [go_sem, Nat.reduceEqDiff, Nat.reduceBEq, Int.reduceToNat, Int.reduceLT, Int.reduceLE, Int.reduceEq, Nat.reduceLeDiff, Nat.reduceLT, Nat.reduceMul, Nat.reduceAdd, String.reduceEq, hf, ftI_some]
    refine hQ .normal _ ?_; exact post_end _ _ (.tup []) (by simp only [go_sem, Nat.reduceEqDiff, Nat.reduceBEq, Int.reduceToNat, Int.reduceLT, Int.reduceLE, Int.reduceEq, Nat.reduceLeDiff, Nat.reduceLT, Nat.reduceMul, Nat.reduceAdd, String.reduceEq]) rfl (DropW.ck0 B cs (cs) R rw_) ⟨rfl, by rw [hgo]⟩
/-- What holds of the names of a checker. -/
structure CS.ok (cs : CS) : Prop where
  kb : ∀ e ∈ cs.kn, e.2.2 < cs.kc
  ub : ∀ e ∈ cs.us, e.2.2 < cs.uc
  pos : ∀ e ∈ cs.us, 0 < e.2.1
  sub : ∀ s, getM s cs.us = none → getM s cs.kn = none
  kpos : ∀ e ∈ cs.kn, 0 < e.2.1
  ul : cs.us.length ≤ 16
def CS.declare (name : Bytes) (kind at_ : Int) (cs : CS) : CS :=
  if cs.ft.isSome then cs
  else if 0 < (getM name cs.us).getD 0 then cs.fail 9 at_
  else if 16 ≤ cs.us.length then cs.fail 15 at_
  else { cs with us := cs.us ++ [(name, kind, cs.uc)], uc := cs.uc + 1, kn := cs.kn ++ [(name, kind, cs.kc)], kc := cs.kc + 1 }
theorem getM_mem {s : Bytes} : ∀ {l : List Ent} {v : Int}, getM s l = some v → ∃ e ∈ l, e.1 = s ∧ e.2.1 = v
  | [], v, h => by cases h
  | e :: l, v, h => by
    unfold getM at h
    split at h
    · rename_i hs; cases h; exact ⟨e, List.mem_cons_self .., hs.symm, rfl⟩
    · obtain ⟨e', h1, h2⟩ := getM_mem h; exact ⟨e', List.mem_cons_of_mem _ h1, h2⟩
theorem CS.ok.absent {cs : CS} (h : cs.ok) {s : Bytes} (hz : ¬ 0 < (getM s cs.us).getD 0) : getM s cs.us = none ∧ getM s cs.kn = none := by
  have : getM s cs.us = none := by
    cases hg : getM s cs.us with
    | none => rfl
    | some v =>
      exfalso
      rw [hg] at hz
      obtain ⟨e, h1, h2, h3⟩ := getM_mem hg
      have := h.pos e h1
      apply hz
      simp only [Option.getD_some]
      omega
  exact ⟨this, h.sub s this⟩
set_option maxRecDepth 100000 in
set_option maxHeartbeats 4000000 in
theorem declare_sim (cs : CS) (hok : cs.ok) (hlen : cs.us.length < 900000) (name : Bytes) (kind at_ : Int) : SimC 57 [ss name, ii kind, ii at_] cs (.tup []) (cs.declare name kind at_) := by
  intro B R rw_
  refine Sim.ofS 51 [] Try.func57 rfl rfl rfl (by simp) fun wr => ?_
  simp only [go_sem, Nat.reduceEqDiff, Nat.reduceBEq, Int.reduceToNat, Int.reduceLT, Int.reduceLE, Int.reduceEq, Nat.reduceLeDiff, Nat.reduceLT, Nat.reduceMul, Nat.reduceAdd, String.reduceEq]
  cases hf : cs.ft with
  | some p =>
    have hgo : cs.declare name kind at_ = cs := by simp [CS.declare, hf]
    refine TS.of [] fun Q hQ => ?_
    simp only [go_sem, Nat.reduceEqDiff, Nat.reduceBEq, Int.reduceToNat, Int.reduceLT, Int.reduceLE, Int.reduceEq, Nat.reduceLeDiff, Nat.reduceLT, Nat.reduceMul, Nat.reduceAdd, String.reduceEq, hf, ftI_some]
    refine hQ .ret _ ?_; exact post_ret _ _ (.tup []) (by simp only [go_sem, Nat.reduceEqDiff, Nat.reduceBEq, Int.reduceToNat, Int.reduceLT, Int.reduceLE, Int.reduceEq, Nat.reduceLeDiff, Nat.reduceLT, Nat.reduceMul, Nat.reduceAdd, String.reduceEq]) rfl (DropW.ck0 B cs (cs) R rw_) ⟨rfl, by rw [hgo]⟩
  | none =>
    by_cases hz : 0 < (getM name cs.us).getD 0
    · have hgo : cs.declare name kind at_ = cs.fail 9 at_ := by simp [CS.declare, hf, hz]
      refine TS.of [] fun Q hQ => ?_
      simp only [go_sem, Nat.reduceEqDiff, Nat.reduceBEq, Int.reduceToNat, Int.reduceLT, Int.reduceLE, Int.reduceEq, Nat.reduceLeDiff, Nat.reduceLT, Nat.reduceMul, Nat.reduceAdd, String.reduceEq, hf, ftI_none, Mem.map_, mlook_enc, mval_enc, hz]
      refine cal_eq ((fail_sim cs 9 at_) B R rw_) ?_
      simp only [go_sem, Nat.reduceEqDiff, Nat.reduceBEq, Int.reduceToNat, Int.reduceLT, Int.reduceLE, Int.reduceEq, Nat.reduceLeDiff, Nat.reduceLT, Nat.reduceMul, Nat.reduceAdd, String.reduceEq]
      refine hQ .ret _ ?_; exact post_ret _ _ (.tup []) (by simp only [go_sem, Nat.reduceEqDiff, Nat.reduceBEq, Int.reduceToNat, Int.reduceLT, Int.reduceLE, Int.reduceEq, Nat.reduceLeDiff, Nat.reduceLT, Nat.reduceMul, Nat.reduceAdd, String.reduceEq]) rfl (DropW.ck0 B cs (cs.fail 9 at_) R rw_) ⟨rfl, by rw [hgo]⟩
    · obtain ⟨hu, hk⟩ := hok.absent hz
      by_cases hl : 16 ≤ cs.us.length
      · have hgo : cs.declare name kind at_ = cs.fail 15 at_ := by simp [CS.declare, hf, hz, hl]
        have hl' : (16 : Int) ≤ (cs.us.length : Int) := by omega
        refine TS.of [] fun Q hQ => ?_
        simp only [go_sem, Nat.reduceEqDiff, Nat.reduceBEq, Int.reduceToNat, Int.reduceLT, Int.reduceLE, Int.reduceEq, Nat.reduceLeDiff, Nat.reduceLT, Nat.reduceMul, Nat.reduceAdd, String.reduceEq, hf, ftI_none, Mem.map_, mlook_enc, mval_enc, hz, encM_size, hl']
        refine cal_eq ((fail_sim cs 15 at_) B R rw_) ?_
        simp only [go_sem, Nat.reduceEqDiff, Nat.reduceBEq, Int.reduceToNat, Int.reduceLT, Int.reduceLE, Int.reduceEq, Nat.reduceLeDiff, Nat.reduceLT, Nat.reduceMul, Nat.reduceAdd, String.reduceEq]
        refine hQ .ret _ ?_; exact post_ret _ _ (.tup []) (by simp only [go_sem, Nat.reduceEqDiff, Nat.reduceBEq, Int.reduceToNat, Int.reduceLT, Int.reduceLE, Int.reduceEq, Nat.reduceLeDiff, Nat.reduceLT, Nat.reduceMul, Nat.reduceAdd, String.reduceEq]) rfl (DropW.ck0 B cs (cs.fail 15 at_) R rw_) ⟨rfl, by rw [hgo]⟩
      · have hgo : cs.declare name kind at_ = { cs with us := cs.us ++ [(name, kind, cs.uc)], uc := cs.uc + 1, kn := cs.kn ++ [(name, kind, cs.kc)], kc := cs.kc + 1 } := by simp [CS.declare, hf, hz, hl]
        have hl' : ¬ (16 : Int) ≤ (cs.us.length : Int) := by omega
        have h1 := ment_enc (c := cs.uc) hu
        have h2 := born_enc (c := cs.uc) hu
        have h3 := estore_enc (s := name) (v := kind) hok.ub
        have g1 := ment_enc (c := cs.kc) hk
        have g2 := born_enc (c := cs.kc) hk
        have g3 := estore_enc (s := name) (v := kind) hok.kb
        refine TS.of [] fun Q hQ => ?_
        simp only [go_sem, Nat.reduceEqDiff, Nat.reduceBEq, Int.reduceToNat, Int.reduceLT, Int.reduceLE, Int.reduceEq, Nat.reduceLeDiff, Nat.reduceLT, Nat.reduceMul, Nat.reduceAdd, String.reduceEq, hf, ftI_none, Mem.map_, mlook_enc, mval_enc, hz, encM_size, hl']
        refine drn_of ⟨[], [], []⟩ [0, 1, 3, 7, 0, 0, 32, 96, 224, 0, 0, 0, 511, 4607, 13823, 30719, 63487, 131071] (by kernel_rfl) ?_
        simp only [go_sem, Nat.reduceEqDiff, Nat.reduceBEq, Int.reduceToNat, Int.reduceLT, Int.reduceLE, Int.reduceEq, Nat.reduceLeDiff, Nat.reduceLT, Nat.reduceMul, Nat.reduceAdd, String.reduceEq, hf, ftI_none, Mem.map_, mlook_enc, mval_enc, h1, h2, h3.1, h3.2, g1, g2, g3.1, g3.2]
        refine hQ .normal _ ?_; exact post_end _ _ (.tup []) (by simp only [go_sem, Nat.reduceEqDiff, Nat.reduceBEq, Int.reduceToNat, Int.reduceLT, Int.reduceLE, Int.reduceEq, Nat.reduceLeDiff, Nat.reduceLT, Nat.reduceMul, Nat.reduceAdd, String.reduceEq]) rfl (DropW.ck0 B cs ({ cs with us := cs.us ++ [(name, kind, cs.uc)], uc := cs.uc + 1, kn := cs.kn ++ [(name, kind, cs.kc)], kc := cs.kc + 1 }) R rw_) ⟨rfl, by rw [hgo]⟩
end Go.Proofs.Ytphjldhdnmoolaa.A
/- The walks of some functions over the abstract machine. -/
namespace Go.Proofs.Ytphjldhdnmoolaa.A
open Go
mutual
def cexpr : Expr → CS → Int × Int × CS
  | .mk k _ s a p, cs =>
    if k = 1 then (1, 1, cs)
    else if k = 2 then
      if s = qTrue ∨ s = qFalse then (2, 1, cs)
      else match getM s cs.kn with
        | some v => (v, 1, cs)
        | none => (0, 1, cs.fail 9 p)
    else if k = 3 then (1, 1 + (cargs a 1 { cs with rd := true }).1, (cargs a 1 { cs with rd := true }).2)
    else if k = 4 then (2, 1 + (cargs a 2 cs).1, (cargs a 2 cs).2)
    else if k = 5 then (1, 1 + (cargs a 1 cs).1, (cargs a 1 cs).2)
    else if s = qAnd ∨ s = qOr then (2, 1 + (cargs a 2 cs).1, (cargs a 2 cs).2)
    else if s = qLt ∨ s = qLe ∨ s = qGt ∨ s = qGe then (2, 1 + (cargs a 1 cs).1, (cargs a 1 cs).2)
    else if s = qEq ∨ s = qNe then
      if a.length = 2 then (2, 1 + (ceq a cs).1, (ceq a cs).2) else (2, 1, cs)
    else (1, 1 + (cargs a 1 cs).1, (cargs a 1 cs).2)
def cargs : List Expr → Int → CS → Int × CS
  | [], _, cs => (0, cs)
  | e :: l, kind, cs =>
    ((cexpr e cs).2.1 + (cargs l kind (if (cexpr e cs).1 = kind then (cexpr e cs).2.2 else (cexpr e cs).2.2.fail 10 e.p)).1,
      (cargs l kind (if (cexpr e cs).1 = kind then (cexpr e cs).2.2 else (cexpr e cs).2.2.fail 10 e.p)).2)
def ceq : List Expr → CS → Int × CS
  | [], cs => (0, cs)
  | e :: l, cs => ((cexpr e cs).2.1 + (cargs l (cexpr e cs).1 (cexpr e cs).2.2).1, (cargs l (cexpr e cs).1 (cexpr e cs).2.2).2)
end
def cwant (e : Expr) (kind : Int) (cs : CS) : Int × CS := ((cexpr e cs).2.1, if (cexpr e cs).1 = kind then (cexpr e cs).2.2 else (cexpr e cs).2.2.fail 10 e.p)
theorem cargs_cons (e : Expr) (l : List Expr) (kind : Int) (cs : CS) : cargs (e :: l) kind cs = ((cwant e kind cs).1 + (cargs l kind (cwant e kind cs).2).1, (cargs l kind (cwant e kind cs).2).2) := by rw [cargs]; rfl
theorem ceq_two (x y : Expr) (cs : CS) : ceq [x, y] cs = ((cexpr x cs).2.1 + (cwant y (cexpr x cs).1 (cexpr x cs).2.2).1, (cwant y (cexpr x cs).1 (cexpr x cs).2.2).2) := by rw [ceq, cargs_cons]; simp [cargs]
mutual
theorem cexpr_le : ∀ (e : Expr) (cs : CS), 0 ≤ (cexpr e cs).2.1 ∧ (cexpr e cs).2.1 ≤ szE e
  | .mk k _ s a p, cs => by
    unfold cexpr szE
    have h1 := fun kind cs => cargs_le a kind cs
    have h2 := fun cs => ceq_le a cs
    have s0 : 0 ≤ szs a := Nat.zero_le _
    repeat' split
    all_goals dsimp only
    all_goals first | omega | (have := h1 1 { cs with rd := true }; omega) | (have := h1 2 cs; omega) | (have := h1 1 cs; omega) | (have := h2 cs; omega)
theorem cargs_le : ∀ (l : List Expr) (kind : Int) (cs : CS), 0 ≤ (cargs l kind cs).1 ∧ (cargs l kind cs).1 ≤ szs l
  | [], kind, cs => by simp [cargs, szs]
  | e :: l, kind, cs => by
    rw [cargs, szs]
    have h1 := cexpr_le e cs
    have h2 := cargs_le l kind (if (cexpr e cs).1 = kind then (cexpr e cs).2.2 else (cexpr e cs).2.2.fail 10 e.p)
    dsimp only
    omega
theorem ceq_le : ∀ (l : List Expr) (cs : CS), 0 ≤ (ceq l cs).1 ∧ (ceq l cs).1 ≤ szs l
  | [], cs => by simp [ceq, szs]
  | e :: l, cs => by
    rw [ceq, szs]
    have h1 := cexpr_le e cs
    have h2 := cargs_le l (cexpr e cs).1 (cexpr e cs).2.2
    dsimp only
    omega
end
def EC (N : Nat) : Prop := ∀ (e : Expr) (cs : CS), szE e ≤ N → SimC 81 [.agg (encE e)] cs (.tup [ii (cexpr e cs).1, ii (cexpr e cs).2.1]) (cexpr e cs).2.2
def WC (N : Nat) : Prop := ∀ (e : Expr) (kind : Int) (cs : CS), szE e ≤ N → SimC 58 [.agg (encE e), ii kind] cs (ii (cwant e kind cs).1) (cwant e kind cs).2
def AC (N : Nat) : Prop := ∀ (e : Expr) (kind : Int) (cs : CS), szs e.a ≤ N → SimC 97 [.agg (encE e), ii kind] cs (ii (1 + (cargs e.a kind cs).1)) (cargs e.a kind cs).2
set_option maxRecDepth 100000 in
set_option maxHeartbeats 4000000 in
theorem want_step {N : Nat} (ih : EC N) : WC N := by
  intro e kind cs hN B R rw_
  refine Sim.ofS 23 [.tmp 6] Try.func58 rfl rfl rfl (by simp) fun wr => ?_
  simp only [go_sem, Nat.reduceEqDiff, Nat.reduceBEq, Int.reduceToNat, Int.reduceLT, Int.reduceLE, Int.reduceEq, Nat.reduceLeDiff, Nat.reduceLT, Nat.reduceMul, Nat.reduceAdd, String.reduceEq]
  have hsub := ih e cs hN B R rw_
  have hgo : cwant e kind cs = cwant e kind cs := rfl
  conv at hgo => rhs; unfold cwant
  generalize cexpr e cs = X at hsub hgo
  refine TS.of [4] fun Q hQ => ?_
  simp only [go_sem, Nat.reduceEqDiff, Nat.reduceBEq, Int.reduceToNat, Int.reduceLT, Int.reduceLE, Int.reduceEq, Nat.reduceLeDiff, Nat.reduceLT, Nat.reduceMul, Nat.reduceAdd, String.reduceEq, encE_eq]
  refine cal_eq (by simpa only [encE_eq] using hsub) ?_
  by_cases hk : X.1 = kind
  · rw [if_pos hk] at hgo
    simp only [go_sem, Nat.reduceEqDiff, Nat.reduceBEq, Int.reduceToNat, Int.reduceLT, Int.reduceLE, Int.reduceEq, Nat.reduceLeDiff, Nat.reduceLT, Nat.reduceMul, Nat.reduceAdd, String.reduceEq, hk]
    refine hQ .ret _ ?_; exact post_ret _ _ (ii X.2.1) (by simp only [go_sem, Nat.reduceEqDiff, Nat.reduceBEq, Int.reduceToNat, Int.reduceLT, Int.reduceLE, Int.reduceEq, Nat.reduceLeDiff, Nat.reduceLT, Nat.reduceMul, Nat.reduceAdd, String.reduceEq]) rfl (DropW.ck0 B cs (X.2.2) R rw_) ⟨by rw [hgo], by rw [hgo]⟩
  · rw [if_neg hk] at hgo
    simp only [go_sem, Nat.reduceEqDiff, Nat.reduceBEq, Int.reduceToNat, Int.reduceLT, Int.reduceLE, Int.reduceEq, Nat.reduceLeDiff, Nat.reduceLT, Nat.reduceMul, Nat.reduceAdd, String.reduceEq, hk]
    refine cal_eq (fail_sim X.2.2 10 e.p B R rw_) ?_
    simp only [go_sem, Nat.reduceEqDiff, Nat.reduceBEq, Int.reduceToNat, Int.reduceLT, Int.reduceLE, Int.reduceEq, Nat.reduceLeDiff, Nat.reduceLT, Nat.reduceMul, Nat.reduceAdd, String.reduceEq]
    refine hQ .ret _ ?_; exact post_ret _ _ (ii X.2.1) (by simp only [go_sem, Nat.reduceEqDiff, Nat.reduceBEq, Int.reduceToNat, Int.reduceLT, Int.reduceLE, Int.reduceEq, Nat.reduceLeDiff, Nat.reduceLT, Nat.reduceMul, Nat.reduceAdd, String.reduceEq]) rfl (DropW.ck0 B cs (X.2.2.fail 10 e.p) R rw_) ⟨by rw [hgo], by rw [hgo]⟩
theorem SimC.mem {f : FuncId} {args : List IV} {cs cs' : CS} {r : IV} (h : SimC f args cs r cs') (B R : List IObj) (rw_ : List Nat) : Sim f (.ptr (B.length + 2) 0 :: args) ⟨CM B cs R, rw_⟩ (fun x m' => x = r ∧ m' = ⟨CM B cs' R, rw_⟩) := h B R rw_
set_option maxRecDepth 100000 in
set_option maxHeartbeats 4000000 in
theorem args_step {N : Nat} (hNb : N < 900000) (ih : WC N) : AC N := by
  intro e kind cs hN B R rw_
  refine Sim.ofS 25 [.tmp 6] Try.func97 rfl rfl rfl (by simp) fun wr => ?_
  simp only [go_sem, Nat.reduceEqDiff, Nat.reduceBEq, Int.reduceToNat, Int.reduceLT, Int.reduceLE, Int.reduceEq, Nat.reduceLeDiff, Nat.reduceLT, Nat.reduceMul, Nat.reduceAdd, String.reduceEq]
  have hll := szs_len e.a
  refine TS.seq (TS.of [4] fun Q hQ => ?_)
  simp only [go_sem, Nat.reduceEqDiff, Nat.reduceBEq, Int.reduceToNat, Int.reduceLT, Int.reduceLE, Int.reduceEq, Nat.reduceLeDiff, Nat.reduceLT, Nat.reduceMul, Nat.reduceAdd, String.reduceEq, encE_eq]
  refine hQ .normal _ ?_; clear hQ Q
  refine TS.seq (TS.of [] fun Q hQ => ?_)
  simp only [go_sem, Nat.reduceEqDiff, Nat.reduceBEq, Int.reduceToNat, Int.reduceLT, Int.reduceLE, Int.reduceEq, Nat.reduceLeDiff, Nat.reduceLT, Nat.reduceMul, Nat.reduceAdd, String.reduceEq]
  refine hQ .normal _ ?_; clear hQ Q
  refine TS.seq (TS.seq (TS.of [] fun Q hQ => ?_))
  simp only [go_sem, Nat.reduceEqDiff, Nat.reduceBEq, Int.reduceToNat, Int.reduceLT, Int.reduceLE, Int.reduceEq, Nat.reduceLeDiff, Nat.reduceLT, Nat.reduceMul, Nat.reduceAdd, String.reduceEq]
  refine hQ .normal _ ?_; clear hQ Q
  refine TS.block (TS.loop (α := Nat × Int × CS) (fun x => [(0, .ptr (B.length + 2) 0), (2, ii kind), (7, ii x.2.1), (11, slE e.a), (12, ii e.a.length), (13, ii x.1)]) (fun x => ⟨CM B x.2.2 R, rw_⟩) (fun x => x.1 ≤ e.a.length ∧ 0 ≤ x.2.1 ∧ x.2.1 + szs (e.a.drop x.1) ≤ 1 + szs e.a ∧ x.2.1 + (cargs (e.a.drop x.1) kind x.2.2).1 = 1 + (cargs e.a kind cs).1 ∧ (cargs (e.a.drop x.1) kind x.2.2).2 = (cargs e.a kind cs).2) (fun x => e.a.length - x.1) (0, 1, cs) (by simp) ⟨by simp [Has, upd_apply, argsT], rfl, by simp⟩ ?_)
  rintro ⟨k, n, c1⟩ st hH hm ⟨hk, hn0, hn1, hc1, hc2⟩
  dsimp only at hH hm hk hn0 hn1 hc1 hc2
  simp only [Has, List.mem_cons, List.not_mem_nil, or_false, forall_eq_or_imp, forall_eq] at hH; obtain ⟨i0, i2, i7, i11, i12, i13⟩ := hH
  by_cases hlt : k < e.a.length
  · obtain ⟨x, hx⟩ : ∃ x, e.a[k]? = some x := ⟨_, List.getElem?_eq_getElem hlt⟩
    have hdr : e.a.drop k = x :: e.a.drop (k + 1) := by rw [List.drop_eq_getElem_cons hlt]; congr 1; exact Option.some.inj ((List.getElem?_eq_getElem hlt).symm.trans hx)
    have hat := encEs_at hx
    have hlt5 : k * 5 < (encEs e.a).length := by rw [encEs_length]; omega
    have hw := wrap_succ hlt (by omega)
    have hsz := szE_at hx
    rw [hdr, cargs_cons] at hc1 hc2
    rw [hdr, szs] at hn1
    have hcw : 0 ≤ (cwant x kind c1).1 ∧ (cwant x kind c1).1 ≤ szE x := cexpr_le x c1
    have hsub := (ih x kind c1 (by omega)).mem B (R ++ [.cells (encE x)]) rw_
    rw [encE_eq] at hsub
    generalize cwant x kind c1 = X at hc1 hc2 hsub hcw
    have hw2 : IntKind.i64.wrap (n + X.1) = n + X.1 := wrap_small (by omega) (by omega)
    refine TS.of [] fun Q hQ => ?_
    simp only [go_sem, Nat.reduceEqDiff, Nat.reduceBEq, Int.reduceToNat, Int.reduceLT, Int.reduceLE, Int.reduceEq, Nat.reduceLeDiff, Nat.reduceLT, Nat.reduceMul, Nat.reduceAdd, String.reduceEq, i0, i2, i7, i11, i12, i13, hm, hlt, hat, hlt5]
    refine cal_eq hsub ?_
    simp only [go_sem, Nat.reduceEqDiff, Nat.reduceBEq, Int.reduceToNat, Int.reduceLT, Int.reduceLE, Int.reduceEq, Nat.reduceLeDiff, Nat.reduceLT, Nat.reduceMul, Nat.reduceAdd, String.reduceEq, i0, i2, i7, i11, i12, i13, hw, hw2]
    refine hQ .normal _ ?_; clear hQ Q
    refine ⟨_, _, (k + 1, n + X.1, X.2), DropW.ckX B c1 X.2 R rw_ _, ?_, ⟨hlt, by dsimp only; omega, by dsimp only; omega, by dsimp only at hc1 ⊢; omega, hc2⟩, by dsimp only; omega⟩
    simp [upd_apply, i0, i2, i11, i12, IV.np, np_sh, npEs] <;> omega
  · refine TS.of [] fun Q hQ => ?_
    simp only [go_sem, Nat.reduceEqDiff, Nat.reduceBEq, Int.reduceToNat, Int.reduceLT, Int.reduceLE, Int.reduceEq, Nat.reduceLeDiff, Nat.reduceLT, Nat.reduceMul, Nat.reduceAdd, String.reduceEq, i0, i2, i7, i11, i12, i13, hm, hlt]
    refine hQ (.exit 0) _ ?_; clear hQ Q
    have : e.a.drop k = [] := List.drop_eq_nil_of_le (by omega)
    rw [this] at hc1 hc2
    simp only [cargs] at hc1 hc2
    refine TS.of [] fun Q hQ => ?_
    simp only [go_sem, Nat.reduceEqDiff, Nat.reduceBEq, Int.reduceToNat, Int.reduceLT, Int.reduceLE, Int.reduceEq, Nat.reduceLeDiff, Nat.reduceLT, Nat.reduceMul, Nat.reduceAdd, String.reduceEq, i0, i2, i7, i11, i12, i13]
    refine hQ .ret _ ?_; exact post_ret _ _ (ii n) (by simp only [go_sem, Nat.reduceEqDiff, Nat.reduceBEq, Int.reduceToNat, Int.reduceLT, Int.reduceLE, Int.reduceEq, Nat.reduceLeDiff, Nat.reduceLT, Nat.reduceMul, Nat.reduceAdd, String.reduceEq]) rfl (DropW.ck0 B cs (c1) R rw_) ⟨by rw [show 1 + (cargs e.a kind cs).1 = n by omega], by rw [hc2]⟩
set_option maxRecDepth 100000 in
set_option maxHeartbeats 4000000 in
theorem expr_cstep {N : Nat} (hNb : N < 900000) (ihE : ∀ M, M < N → EC M) (ihW : ∀ M, M < N → WC M) (ihA : ∀ M, M < N → AC M) : EC N := by
  intro e cs hN B R rw_
  have hsz := szE_eq e
  have hll := szs_len e.a
  refine Sim.ofS 104 [.tmp 4, .tmp 5] Try.func81 rfl rfl rfl (by simp) fun wr => ?_
  simp only [go_sem, Nat.reduceEqDiff, Nat.reduceBEq, Int.reduceToNat, Int.reduceLT, Int.reduceLE, Int.reduceEq, Nat.reduceLeDiff, Nat.reduceLT, Nat.reduceMul, Nat.reduceAdd, String.reduceEq]
  have hgo : cexpr e cs = cexpr e cs := rfl
  conv at hgo => rhs; rw [show e = .mk e.k e.n e.s e.a e.p by cases e; rfl]; unfold cexpr
  have hA := fun kind cs => ihA (szs e.a) (by omega) e kind cs (Nat.le_refl _)
  by_cases k1 : e.k = 1
  · rw [if_pos k1] at hgo
    refine TS.of [3] fun Q hQ => ?_
    simp only [go_sem, Nat.reduceEqDiff, Nat.reduceBEq, Int.reduceToNat, Int.reduceLT, Int.reduceLE, Int.reduceEq, Nat.reduceLeDiff, Nat.reduceLT, Nat.reduceMul, Nat.reduceAdd, String.reduceEq, encE_eq, k1]
    refine hQ .ret _ ?_; exact post_ret _ _ (.tup [ii 1, ii 1]) (by simp only [go_sem, Nat.reduceEqDiff, Nat.reduceBEq, Int.reduceToNat, Int.reduceLT, Int.reduceLE, Int.reduceEq, Nat.reduceLeDiff, Nat.reduceLT, Nat.reduceMul, Nat.reduceAdd, String.reduceEq]) rfl (DropW.ck0 B cs (cs) R rw_) ⟨by rw [hgo], by rw [hgo]⟩
  rw [if_neg k1] at hgo
  by_cases k2 : e.k = 2
  · rw [if_pos k2] at hgo
    by_cases t1 : e.s = qTrue ∨ e.s = qFalse
    · rw [if_pos t1] at hgo
      refine TS.of [3] fun Q hQ => ?_
      by_cases t2 : e.s = ⟨#[116, 114, 117, 101]⟩
      · simp only [go_sem, Nat.reduceEqDiff, Nat.reduceBEq, Int.reduceToNat, Int.reduceLT, Int.reduceLE, Int.reduceEq, Nat.reduceLeDiff, Nat.reduceLT, Nat.reduceMul, Nat.reduceAdd, String.reduceEq, encE_eq, k1, k2, t2]
        refine hQ .ret _ ?_; exact post_ret _ _ (.tup [ii 2, ii 1]) (by simp only [go_sem, Nat.reduceEqDiff, Nat.reduceBEq, Int.reduceToNat, Int.reduceLT, Int.reduceLE, Int.reduceEq, Nat.reduceLeDiff, Nat.reduceLT, Nat.reduceMul, Nat.reduceAdd, String.reduceEq]) rfl (DropW.ck0 B cs (cs) R rw_) ⟨by rw [hgo], by rw [hgo]⟩
      · have t3 : e.s = ⟨#[102, 97, 108, 115, 101]⟩ := by rcases t1 with h | h; exact absurd h t2; exact h
        have t4 : ¬ ((⟨#[102, 97, 108, 115, 101]⟩ : ByteArray) = ⟨#[116, 114, 117, 101]⟩) := by decide
        simp only [go_sem, Nat.reduceEqDiff, Nat.reduceBEq, Int.reduceToNat, Int.reduceLT, Int.reduceLE, Int.reduceEq, Nat.reduceLeDiff, Nat.reduceLT, Nat.reduceMul, Nat.reduceAdd, String.reduceEq, encE_eq, k1, k2, t3, t4]
        refine hQ .ret _ ?_; exact post_ret _ _ (.tup [ii 2, ii 1]) (by simp only [go_sem, Nat.reduceEqDiff, Nat.reduceBEq, Int.reduceToNat, Int.reduceLT, Int.reduceLE, Int.reduceEq, Nat.reduceLeDiff, Nat.reduceLT, Nat.reduceMul, Nat.reduceAdd, String.reduceEq]) rfl (DropW.ck0 B cs (cs) R rw_) ⟨by rw [hgo], by rw [hgo]⟩
    · rw [if_neg t1] at hgo
      have t2 : ¬ e.s = ⟨#[116, 114, 117, 101]⟩ := fun h => t1 (.inl h)
      have t3 : ¬ e.s = ⟨#[102, 97, 108, 115, 101]⟩ := fun h => t1 (.inr h)
      cases hg : getM e.s cs.kn with
      | some v =>
        rw [hg] at hgo
        refine TS.of [3] fun Q hQ => ?_
        simp only [go_sem, Nat.reduceEqDiff, Nat.reduceBEq, Int.reduceToNat, Int.reduceLT, Int.reduceLE, Int.reduceEq, Nat.reduceLeDiff, Nat.reduceLT, Nat.reduceMul, Nat.reduceAdd, String.reduceEq, encE_eq, k1, k2, t2, t3]
        refine drn_of ⟨[], [], []⟩ [0, 1, 3, 7, 0, 16, 63, 127, 255, 255, 511, 2047] (by kernel_rfl) ?_
        simp only [go_sem, Nat.reduceEqDiff, Nat.reduceBEq, Int.reduceToNat, Int.reduceLT, Int.reduceLE, Int.reduceEq, Nat.reduceLeDiff, Nat.reduceLT, Nat.reduceMul, Nat.reduceAdd, String.reduceEq, Mem.map_, mlook_enc, mval_enc, some_enc, hg, Option.getD_some, Option.isSome_some]
        refine hQ .ret _ ?_; exact post_ret _ _ (.tup [ii v, ii 1]) (by simp only [go_sem, Nat.reduceEqDiff, Nat.reduceBEq, Int.reduceToNat, Int.reduceLT, Int.reduceLE, Int.reduceEq, Nat.reduceLeDiff, Nat.reduceLT, Nat.reduceMul, Nat.reduceAdd, String.reduceEq]) rfl (DropW.ck0 B cs (cs) R rw_) ⟨by rw [hgo], by rw [hgo]⟩
      | none =>
        rw [hg] at hgo
        refine TS.of [3] fun Q hQ => ?_
        simp only [go_sem, Nat.reduceEqDiff, Nat.reduceBEq, Int.reduceToNat, Int.reduceLT, Int.reduceLE, Int.reduceEq, Nat.reduceLeDiff, Nat.reduceLT, Nat.reduceMul, Nat.reduceAdd, String.reduceEq, encE_eq, k1, k2, t2, t3]
        refine drn_of ⟨[], [], []⟩ [0, 1, 3, 7, 0, 16, 63, 127, 255, 255, 511, 2047] (by kernel_rfl) ?_
        simp only [go_sem, Nat.reduceEqDiff, Nat.reduceBEq, Int.reduceToNat, Int.reduceLT, Int.reduceLE, Int.reduceEq, Nat.reduceLeDiff, Nat.reduceLT, Nat.reduceMul, Nat.reduceAdd, String.reduceEq, Mem.map_, mlook_enc, mval_enc, some_enc, hg, Option.getD_none, Option.isSome_none]
        refine cal_eq (fail_sim cs 9 e.p B R rw_) ?_
        simp only [go_sem, Nat.reduceEqDiff, Nat.reduceBEq, Int.reduceToNat, Int.reduceLT, Int.reduceLE, Int.reduceEq, Nat.reduceLeDiff, Nat.reduceLT, Nat.reduceMul, Nat.reduceAdd, String.reduceEq]
        refine hQ .ret _ ?_; exact post_ret _ _ (.tup [ii 0, ii 1]) (by simp only [go_sem, Nat.reduceEqDiff, Nat.reduceBEq, Int.reduceToNat, Int.reduceLT, Int.reduceLE, Int.reduceEq, Nat.reduceLeDiff, Nat.reduceLT, Nat.reduceMul, Nat.reduceAdd, String.reduceEq]) rfl (DropW.ck0 B cs (cs.fail 9 e.p) R rw_) ⟨by rw [hgo], by rw [hgo]⟩
  rw [if_neg k2] at hgo
  by_cases k3 : e.k = 3
  · rw [if_pos k3] at hgo
    have hsub := (hA 1 { cs with rd := true }).mem B R rw_
    rw [encE_eq, k3] at hsub
    generalize cargs e.a 1 { cs with rd := true } = X at hgo hsub
    refine TS.of [3] fun Q hQ => ?_
    simp only [go_sem, Nat.reduceEqDiff, Nat.reduceBEq, Int.reduceToNat, Int.reduceLT, Int.reduceLE, Int.reduceEq, Nat.reduceLeDiff, Nat.reduceLT, Nat.reduceMul, Nat.reduceAdd, String.reduceEq, encE_eq, k1, k2, k3]
    refine cal_eq hsub ?_
    simp only [go_sem, Nat.reduceEqDiff, Nat.reduceBEq, Int.reduceToNat, Int.reduceLT, Int.reduceLE, Int.reduceEq, Nat.reduceLeDiff, Nat.reduceLT, Nat.reduceMul, Nat.reduceAdd, String.reduceEq]
    refine hQ .ret _ ?_; exact post_ret _ _ (.tup [ii 1, ii (1 + X.1)]) (by simp only [go_sem, Nat.reduceEqDiff, Nat.reduceBEq, Int.reduceToNat, Int.reduceLT, Int.reduceLE, Int.reduceEq, Nat.reduceLeDiff, Nat.reduceLT, Nat.reduceMul, Nat.reduceAdd, String.reduceEq]) rfl (DropW.ck0 B cs (X.2) R rw_) ⟨by rw [hgo], by rw [hgo]⟩
  rw [if_neg k3] at hgo
  by_cases k4 : e.k = 4
  · rw [if_pos k4] at hgo
    have hsub := (hA 2 cs).mem B R rw_
    rw [encE_eq, k4] at hsub
    generalize cargs e.a 2 cs = X at hgo hsub
    refine TS.of [3] fun Q hQ => ?_
    simp only [go_sem, Nat.reduceEqDiff, Nat.reduceBEq, Int.reduceToNat, Int.reduceLT, Int.reduceLE, Int.reduceEq, Nat.reduceLeDiff, Nat.reduceLT, Nat.reduceMul, Nat.reduceAdd, String.reduceEq, encE_eq, k1, k2, k3, k4]
    refine cal_eq hsub ?_
    simp only [go_sem, Nat.reduceEqDiff, Nat.reduceBEq, Int.reduceToNat, Int.reduceLT, Int.reduceLE, Int.reduceEq, Nat.reduceLeDiff, Nat.reduceLT, Nat.reduceMul, Nat.reduceAdd, String.reduceEq]
    refine hQ .ret _ ?_; exact post_ret _ _ (.tup [ii 2, ii (1 + X.1)]) (by simp only [go_sem, Nat.reduceEqDiff, Nat.reduceBEq, Int.reduceToNat, Int.reduceLT, Int.reduceLE, Int.reduceEq, Nat.reduceLeDiff, Nat.reduceLT, Nat.reduceMul, Nat.reduceAdd, String.reduceEq]) rfl (DropW.ck0 B cs (X.2) R rw_) ⟨by rw [hgo], by rw [hgo]⟩
  rw [if_neg k4] at hgo
  by_cases k5 : e.k = 5
  · rw [if_pos k5] at hgo
    have hsub := (hA 1 cs).mem B R rw_
    rw [encE_eq, k5] at hsub
    generalize cargs e.a 1 cs = X at hgo hsub
    refine TS.of [3] fun Q hQ => ?_
    simp only [go_sem, Nat.reduceEqDiff, Nat.reduceBEq, Int.reduceToNat, Int.reduceLT, Int.reduceLE, Int.reduceEq, Nat.reduceLeDiff, Nat.reduceLT, Nat.reduceMul, Nat.reduceAdd, String.reduceEq, encE_eq, k1, k2, k3, k4, k5]
    refine cal_eq hsub ?_
    simp only [go_sem, Nat.reduceEqDiff, Nat.reduceBEq, Int.reduceToNat, Int.reduceLT, Int.reduceLE, Int.reduceEq, Nat.reduceLeDiff, Nat.reduceLT, Nat.reduceMul, Nat.reduceAdd, String.reduceEq]
    refine hQ .ret _ ?_; exact post_ret _ _ (.tup [ii 1, ii (1 + X.1)]) (by simp only [go_sem, Nat.reduceEqDiff, Nat.reduceBEq, Int.reduceToNat, Int.reduceLT, Int.reduceLE, Int.reduceEq, Nat.reduceLeDiff, Nat.reduceLT, Nat.reduceMul, Nat.reduceAdd, String.reduceEq]) rfl (DropW.ck0 B cs (X.2) R rw_) ⟨by rw [hgo], by rw [hgo]⟩
  rw [if_neg k5] at hgo
  have ne : ∀ a b : ByteArray, e.s = a → a ≠ b → ¬ e.s = b := fun a b h1 h2 h3 => h2 (h1.symm.trans h3)
  by_cases s1 : e.s = qAnd ∨ e.s = qOr
  · rw [if_pos s1] at hgo
    rcases s1 with hs | hs
    · -- and
      have hsub := (hA 2 cs).mem B R rw_
      rw [encE_eq, show e.s = ⟨#[38, 38]⟩ from hs] at hsub
      generalize cargs e.a 2 cs = X at hgo hsub
      refine TS.of [3] fun Q hQ => ?_
      simp only [go_sem, Nat.reduceEqDiff, Nat.reduceBEq, Int.reduceToNat, Int.reduceLT, Int.reduceLE, Int.reduceEq, Nat.reduceLeDiff, Nat.reduceLT, Nat.reduceMul, Nat.reduceAdd, String.reduceEq, encE_eq, k1, k2, k3, k4, k5, show e.s = ⟨#[38, 38]⟩ from hs]
      refine cal_eq hsub ?_
      simp only [go_sem, Nat.reduceEqDiff, Nat.reduceBEq, Int.reduceToNat, Int.reduceLT, Int.reduceLE, Int.reduceEq, Nat.reduceLeDiff, Nat.reduceLT, Nat.reduceMul, Nat.reduceAdd, String.reduceEq]
      refine hQ .ret _ ?_; exact post_ret _ _ (.tup [ii 2, ii (1 + X.1)]) (by simp only [go_sem, Nat.reduceEqDiff, Nat.reduceBEq, Int.reduceToNat, Int.reduceLT, Int.reduceLE, Int.reduceEq, Nat.reduceLeDiff, Nat.reduceLT, Nat.reduceMul, Nat.reduceAdd, String.reduceEq]) rfl (DropW.ck0 B cs (X.2) R rw_) ⟨by rw [hgo], by rw [hgo]⟩
    · -- or
      have w0 : ¬ ((⟨#[124, 124]⟩ : ByteArray) = ⟨#[38, 38]⟩) := by decide
      have hsub := (hA 2 cs).mem B R rw_
      rw [encE_eq, show e.s = ⟨#[124, 124]⟩ from hs] at hsub
      generalize cargs e.a 2 cs = X at hgo hsub
      refine TS.of [3] fun Q hQ => ?_
      simp only [go_sem, Nat.reduceEqDiff, Nat.reduceBEq, Int.reduceToNat, Int.reduceLT, Int.reduceLE, Int.reduceEq, Nat.reduceLeDiff, Nat.reduceLT, Nat.reduceMul, Nat.reduceAdd, String.reduceEq, encE_eq, k1, k2, k3, k4, k5, show e.s = ⟨#[124, 124]⟩ from hs, w0]
      refine cal_eq hsub ?_
      simp only [go_sem, Nat.reduceEqDiff, Nat.reduceBEq, Int.reduceToNat, Int.reduceLT, Int.reduceLE, Int.reduceEq, Nat.reduceLeDiff, Nat.reduceLT, Nat.reduceMul, Nat.reduceAdd, String.reduceEq]
      refine hQ .ret _ ?_; exact post_ret _ _ (.tup [ii 2, ii (1 + X.1)]) (by simp only [go_sem, Nat.reduceEqDiff, Nat.reduceBEq, Int.reduceToNat, Int.reduceLT, Int.reduceLE, Int.reduceEq, Nat.reduceLeDiff, Nat.reduceLT, Nat.reduceMul, Nat.reduceAdd, String.reduceEq]) rfl (DropW.ck0 B cs (X.2) R rw_) ⟨by rw [hgo], by rw [hgo]⟩
  rw [if_neg s1] at hgo
  have n1 : ¬ e.s = ⟨#[38, 38]⟩ := fun h => s1 (.inl h)
  have n2 : ¬ e.s = ⟨#[124, 124]⟩ := fun h => s1 (.inr h)
  by_cases s2 : e.s = qLt ∨ e.s = qLe ∨ e.s = qGt ∨ e.s = qGe
  · rw [if_pos s2] at hgo
    rcases s2 with hs | hs | hs | hs
    · -- <
      have w0 : ¬ ((⟨#[60]⟩ : ByteArray) = ⟨#[38, 38]⟩) := by decide
      have w1 : ¬ ((⟨#[60]⟩ : ByteArray) = ⟨#[124, 124]⟩) := by decide
      have hsub := (hA 1 cs).mem B R rw_
      rw [encE_eq, show e.s = ⟨#[60]⟩ from hs] at hsub
      generalize cargs e.a 1 cs = X at hgo hsub
      refine TS.of [3] fun Q hQ => ?_
      simp only [go_sem, Nat.reduceEqDiff, Nat.reduceBEq, Int.reduceToNat, Int.reduceLT, Int.reduceLE, Int.reduceEq, Nat.reduceLeDiff, Nat.reduceLT, Nat.reduceMul, Nat.reduceAdd, String.reduceEq, encE_eq, k1, k2, k3, k4, k5, show e.s = ⟨#[60]⟩ from hs, w0, w1]
      refine cal_eq hsub ?_
      simp only [go_sem, Nat.reduceEqDiff, Nat.reduceBEq, Int.reduceToNat, Int.reduceLT, Int.reduceLE, Int.reduceEq, Nat.reduceLeDiff, Nat.reduceLT, Nat.reduceMul, Nat.reduceAdd, String.reduceEq]
      refine hQ .ret _ ?_; exact post_ret _ _ (.tup [ii 2, ii (1 + X.1)]) (by simp only [go_sem, Nat.reduceEqDiff, Nat.reduceBEq, Int.reduceToNat, Int.reduceLT, Int.reduceLE, Int.reduceEq, Nat.reduceLeDiff, Nat.reduceLT, Nat.reduceMul, Nat.reduceAdd, String.reduceEq]) rfl (DropW.ck0 B cs (X.2) R rw_) ⟨by rw [hgo], by rw [hgo]⟩
    · -- <=
      have w0 : ¬ ((⟨#[60, 61]⟩ : ByteArray) = ⟨#[38, 38]⟩) := by decide
      have w1 : ¬ ((⟨#[60, 61]⟩ : ByteArray) = ⟨#[124, 124]⟩) := by decide
      have w2 : ¬ ((⟨#[60, 61]⟩ : ByteArray) = ⟨#[60]⟩) := by decide
      have hsub := (hA 1 cs).mem B R rw_
      rw [encE_eq, show e.s = ⟨#[60, 61]⟩ from hs] at hsub
      generalize cargs e.a 1 cs = X at hgo hsub
      refine TS.of [3] fun Q hQ => ?_
      simp only [go_sem, Nat.reduceEqDiff, Nat.reduceBEq, Int.reduceToNat, Int.reduceLT, Int.reduceLE, Int.reduceEq, Nat.reduceLeDiff, Nat.reduceLT, Nat.reduceMul, Nat.reduceAdd, String.reduceEq, encE_eq, k1, k2, k3, k4, k5, show e.s = ⟨#[60, 61]⟩ from hs, w0, w1, w2]
      refine cal_eq hsub ?_
      simp only [go_sem, Nat.reduceEqDiff, Nat.reduceBEq, Int.reduceToNat, Int.reduceLT, Int.reduceLE, Int.reduceEq, Nat.reduceLeDiff, Nat.reduceLT, Nat.reduceMul, Nat.reduceAdd, String.reduceEq]
      refine hQ .ret _ ?_; exact post_ret _ _ (.tup [ii 2, ii (1 + X.1)]) (by simp only [go_sem, Nat.reduceEqDiff, Nat.reduceBEq, Int.reduceToNat, Int.reduceLT, Int.reduceLE, Int.reduceEq, Nat.reduceLeDiff, Nat.reduceLT, Nat.reduceMul, Nat.reduceAdd, String.reduceEq]) rfl (DropW.ck0 B cs (X.2) R rw_) ⟨by rw [hgo], by rw [hgo]⟩
    · -- >
      have w0 : ¬ ((⟨#[62]⟩ : ByteArray) = ⟨#[38, 38]⟩) := by decide
      have w1 : ¬ ((⟨#[62]⟩ : ByteArray) = ⟨#[124, 124]⟩) := by decide
      have w2 : ¬ ((⟨#[62]⟩ : ByteArray) = ⟨#[60]⟩) := by decide
      have w3 : ¬ ((⟨#[62]⟩ : ByteArray) = ⟨#[60, 61]⟩) := by decide
      have hsub := (hA 1 cs).mem B R rw_
      rw [encE_eq, show e.s = ⟨#[62]⟩ from hs] at hsub
      generalize cargs e.a 1 cs = X at hgo hsub
      refine TS.of [3] fun Q hQ => ?_
      simp only [go_sem, Nat.reduceEqDiff, Nat.reduceBEq, Int.reduceToNat, Int.reduceLT, Int.reduceLE, Int.reduceEq, Nat.reduceLeDiff, Nat.reduceLT, Nat.reduceMul, Nat.reduceAdd, String.reduceEq, encE_eq, k1, k2, k3, k4, k5, show e.s = ⟨#[62]⟩ from hs, w0, w1, w2, w3]
      refine cal_eq hsub ?_
      simp only [go_sem, Nat.reduceEqDiff, Nat.reduceBEq, Int.reduceToNat, Int.reduceLT, Int.reduceLE, Int.reduceEq, Nat.reduceLeDiff, Nat.reduceLT, Nat.reduceMul, Nat.reduceAdd, String.reduceEq]
      refine hQ .ret _ ?_; exact post_ret _ _ (.tup [ii 2, ii (1 + X.1)]) (by simp only [go_sem, Nat.reduceEqDiff, Nat.reduceBEq, Int.reduceToNat, Int.reduceLT, Int.reduceLE, Int.reduceEq, Nat.reduceLeDiff, Nat.reduceLT, Nat.reduceMul, Nat.reduceAdd, String.reduceEq]) rfl (DropW.ck0 B cs (X.2) R rw_) ⟨by rw [hgo], by rw [hgo]⟩
    · -- >=
      have w0 : ¬ ((⟨#[62, 61]⟩ : ByteArray) = ⟨#[38, 38]⟩) := by decide
      have w1 : ¬ ((⟨#[62, 61]⟩ : ByteArray) = ⟨#[124, 124]⟩) := by decide
      have w2 : ¬ ((⟨#[62, 61]⟩ : ByteArray) = ⟨#[60]⟩) := by decide
      have w3 : ¬ ((⟨#[62, 61]⟩ : ByteArray) = ⟨#[60, 61]⟩) := by decide
      have w4 : ¬ ((⟨#[62, 61]⟩ : ByteArray) = ⟨#[62]⟩) := by decide
      have hsub := (hA 1 cs).mem B R rw_
      rw [encE_eq, show e.s = ⟨#[62, 61]⟩ from hs] at hsub
      generalize cargs e.a 1 cs = X at hgo hsub
      refine TS.of [3] fun Q hQ => ?_
      simp only [go_sem, Nat.reduceEqDiff, Nat.reduceBEq, Int.reduceToNat, Int.reduceLT, Int.reduceLE, Int.reduceEq, Nat.reduceLeDiff, Nat.reduceLT, Nat.reduceMul, Nat.reduceAdd, String.reduceEq, encE_eq, k1, k2, k3, k4, k5, show e.s = ⟨#[62, 61]⟩ from hs, w0, w1, w2, w3, w4]
      refine cal_eq hsub ?_
      simp only [go_sem, Nat.reduceEqDiff, Nat.reduceBEq, Int.reduceToNat, Int.reduceLT, Int.reduceLE, Int.reduceEq, Nat.reduceLeDiff, Nat.reduceLT, Nat.reduceMul, Nat.reduceAdd, String.reduceEq]
      refine hQ .ret _ ?_; exact post_ret _ _ (.tup [ii 2, ii (1 + X.1)]) (by simp only [go_sem, Nat.reduceEqDiff, Nat.reduceBEq, Int.reduceToNat, Int.reduceLT, Int.reduceLE, Int.reduceEq, Nat.reduceLeDiff, Nat.reduceLT, Nat.reduceMul, Nat.reduceAdd, String.reduceEq]) rfl (DropW.ck0 B cs (X.2) R rw_) ⟨by rw [hgo], by rw [hgo]⟩
  rw [if_neg s2] at hgo
  have n3 : ¬ e.s = ⟨#[60]⟩ := fun h => s2 (.inl h)
  have n4 : ¬ e.s = ⟨#[60, 61]⟩ := fun h => s2 (.inr (.inl h))
  have n5 : ¬ e.s = ⟨#[62]⟩ := fun h => s2 (.inr (.inr (.inl h)))
  have n6 : ¬ e.s = ⟨#[62, 61]⟩ := fun h => s2 (.inr (.inr (.inr h)))
  by_cases s3 : e.s = qEq ∨ e.s = qNe
  · rw [if_pos s3] at hgo
    by_cases hl2 : e.a.length = 2
    · rw [if_pos hl2] at hgo
      obtain ⟨x, y, hxy⟩ : ∃ x y, e.a = [x, y] := by
        match ha : e.a, hl2 with
        | [x, y], _ => exact ⟨x, y, rfl⟩
      rw [hxy, ceq_two] at hgo
      have hszs : szs e.a = szE x + szE y := by rw [hxy]; simp [szs]
      have hpos : 1 ≤ szE x ∧ 1 ≤ szE y := ⟨by rw [szE_eq]; omega, by rw [szE_eq]; omega⟩
      have hsub := (ihE (szE x) (by omega) x cs (Nat.le_refl _)).mem B R rw_
      have hx := cexpr_le x cs
      generalize cexpr x cs = X at hgo hsub hx
      have hsub2 := (ihW (szE y) (by omega) y X.1 X.2.2 (Nat.le_refl _)).mem B R rw_
      have hy : 0 ≤ (cwant y X.1 X.2.2).1 ∧ (cwant y X.1 X.2.2).1 ≤ szE y := cexpr_le y X.2.2
      generalize cwant y X.1 X.2.2 = Y at hgo hsub2 hy
      rw [encE_eq] at hsub hsub2
      have w1 : IntKind.i64.wrap (1 + X.2.1) = 1 + X.2.1 := wrap_small (by omega) (by omega)
      have w2 : IntKind.i64.wrap (1 + X.2.1 + Y.1) = 1 + (X.2.1 + Y.1) := by rw [wrap_small (by omega) (by omega)]; omega
      rcases s3 with hs | hs
      · have n7 : e.s = ⟨#[61, 61]⟩ := hs
        refine TS.of [3] fun Q hQ => ?_
        simp only [go_sem, Nat.reduceEqDiff, Nat.reduceBEq, Int.reduceToNat, Int.reduceLT, Int.reduceLE, Int.reduceEq, Nat.reduceLeDiff, Nat.reduceLT, Nat.reduceMul, Nat.reduceAdd, String.reduceEq, encE_eq, encEs, hxy, k1, k2, k3, k4, k5, n1, n2, n3, n4, n5, n6, n7, show ¬ ((⟨#[61, 61]⟩ : ByteArray) = ⟨#[38, 38]⟩) by decide, show ¬ ((⟨#[61, 61]⟩ : ByteArray) = ⟨#[124, 124]⟩) by decide, show ¬ ((⟨#[61, 61]⟩ : ByteArray) = ⟨#[60]⟩) by decide, show ¬ ((⟨#[61, 61]⟩ : ByteArray) = ⟨#[60, 61]⟩) by decide, show ¬ ((⟨#[61, 61]⟩ : ByteArray) = ⟨#[62]⟩) by decide, show ¬ ((⟨#[61, 61]⟩ : ByteArray) = ⟨#[62, 61]⟩) by decide]
        refine cal_eq hsub ?_
        simp only [go_sem, Nat.reduceEqDiff, Nat.reduceBEq, Int.reduceToNat, Int.reduceLT, Int.reduceLE, Int.reduceEq, Nat.reduceLeDiff, Nat.reduceLT, Nat.reduceMul, Nat.reduceAdd, String.reduceEq, w1]
        refine cal_eq hsub2 ?_
        simp only [go_sem, Nat.reduceEqDiff, Nat.reduceBEq, Int.reduceToNat, Int.reduceLT, Int.reduceLE, Int.reduceEq, Nat.reduceLeDiff, Nat.reduceLT, Nat.reduceMul, Nat.reduceAdd, String.reduceEq, w2]
        refine hQ .ret _ ?_; exact post_ret _ _ (.tup [ii 2, ii (1 + (X.2.1 + Y.1))]) (by simp only [go_sem, Nat.reduceEqDiff, Nat.reduceBEq, Int.reduceToNat, Int.reduceLT, Int.reduceLE, Int.reduceEq, Nat.reduceLeDiff, Nat.reduceLT, Nat.reduceMul, Nat.reduceAdd, String.reduceEq]) rfl (DropW.ck0 B cs (Y.2) R rw_) ⟨by rw [hgo], by rw [hgo]⟩
      · have n7 : e.s = ⟨#[33, 61]⟩ := hs
        refine TS.of [3] fun Q hQ => ?_
        simp only [go_sem, Nat.reduceEqDiff, Nat.reduceBEq, Int.reduceToNat, Int.reduceLT, Int.reduceLE, Int.reduceEq, Nat.reduceLeDiff, Nat.reduceLT, Nat.reduceMul, Nat.reduceAdd, String.reduceEq, encE_eq, encEs, hxy, k1, k2, k3, k4, k5, n1, n2, n3, n4, n5, n6, n7, show ¬ ((⟨#[33, 61]⟩ : ByteArray) = ⟨#[38, 38]⟩) by decide, show ¬ ((⟨#[33, 61]⟩ : ByteArray) = ⟨#[124, 124]⟩) by decide, show ¬ ((⟨#[33, 61]⟩ : ByteArray) = ⟨#[60]⟩) by decide, show ¬ ((⟨#[33, 61]⟩ : ByteArray) = ⟨#[60, 61]⟩) by decide, show ¬ ((⟨#[33, 61]⟩ : ByteArray) = ⟨#[62]⟩) by decide, show ¬ ((⟨#[33, 61]⟩ : ByteArray) = ⟨#[62, 61]⟩) by decide, show ¬ ((⟨#[33, 61]⟩ : ByteArray) = ⟨#[61, 61]⟩) by decide]
        refine cal_eq hsub ?_
        simp only [go_sem, Nat.reduceEqDiff, Nat.reduceBEq, Int.reduceToNat, Int.reduceLT, Int.reduceLE, Int.reduceEq, Nat.reduceLeDiff, Nat.reduceLT, Nat.reduceMul, Nat.reduceAdd, String.reduceEq, w1]
        refine cal_eq hsub2 ?_
        simp only [go_sem, Nat.reduceEqDiff, Nat.reduceBEq, Int.reduceToNat, Int.reduceLT, Int.reduceLE, Int.reduceEq, Nat.reduceLeDiff, Nat.reduceLT, Nat.reduceMul, Nat.reduceAdd, String.reduceEq, w2]
        refine hQ .ret _ ?_; exact post_ret _ _ (.tup [ii 2, ii (1 + (X.2.1 + Y.1))]) (by simp only [go_sem, Nat.reduceEqDiff, Nat.reduceBEq, Int.reduceToNat, Int.reduceLT, Int.reduceLE, Int.reduceEq, Nat.reduceLeDiff, Nat.reduceLT, Nat.reduceMul, Nat.reduceAdd, String.reduceEq]) rfl (DropW.ck0 B cs (Y.2) R rw_) ⟨by rw [hgo], by rw [hgo]⟩
    · rw [if_neg hl2] at hgo
      have hl3 : ¬ ((e.a.length : Int) = 2) := by omega
      rcases s3 with hs | hs
      · have n7 : e.s = ⟨#[61, 61]⟩ := hs
        refine TS.of [3] fun Q hQ => ?_
        simp only [go_sem, Nat.reduceEqDiff, Nat.reduceBEq, Int.reduceToNat, Int.reduceLT, Int.reduceLE, Int.reduceEq, Nat.reduceLeDiff, Nat.reduceLT, Nat.reduceMul, Nat.reduceAdd, String.reduceEq, encE_eq, hl3, k1, k2, k3, k4, k5, n1, n2, n3, n4, n5, n6, n7, show ¬ ((⟨#[61, 61]⟩ : ByteArray) = ⟨#[38, 38]⟩) by decide, show ¬ ((⟨#[61, 61]⟩ : ByteArray) = ⟨#[124, 124]⟩) by decide, show ¬ ((⟨#[61, 61]⟩ : ByteArray) = ⟨#[60]⟩) by decide, show ¬ ((⟨#[61, 61]⟩ : ByteArray) = ⟨#[60, 61]⟩) by decide, show ¬ ((⟨#[61, 61]⟩ : ByteArray) = ⟨#[62]⟩) by decide, show ¬ ((⟨#[61, 61]⟩ : ByteArray) = ⟨#[62, 61]⟩) by decide]
        refine hQ .ret _ ?_; exact post_ret _ _ (.tup [ii 2, ii 1]) (by simp only [go_sem, Nat.reduceEqDiff, Nat.reduceBEq, Int.reduceToNat, Int.reduceLT, Int.reduceLE, Int.reduceEq, Nat.reduceLeDiff, Nat.reduceLT, Nat.reduceMul, Nat.reduceAdd, String.reduceEq]) rfl (DropW.ck0 B cs (cs) R rw_) ⟨by rw [hgo], by rw [hgo]⟩
      · have n7 : e.s = ⟨#[33, 61]⟩ := hs
        refine TS.of [3] fun Q hQ => ?_
        simp only [go_sem, Nat.reduceEqDiff, Nat.reduceBEq, Int.reduceToNat, Int.reduceLT, Int.reduceLE, Int.reduceEq, Nat.reduceLeDiff, Nat.reduceLT, Nat.reduceMul, Nat.reduceAdd, String.reduceEq, encE_eq, hl3, k1, k2, k3, k4, k5, n1, n2, n3, n4, n5, n6, n7, show ¬ ((⟨#[33, 61]⟩ : ByteArray) = ⟨#[38, 38]⟩) by decide, show ¬ ((⟨#[33, 61]⟩ : ByteArray) = ⟨#[124, 124]⟩) by decide, show ¬ ((⟨#[33, 61]⟩ : ByteArray) = ⟨#[60]⟩) by decide, show ¬ ((⟨#[33, 61]⟩ : ByteArray) = ⟨#[60, 61]⟩) by decide, show ¬ ((⟨#[33, 61]⟩ : ByteArray) = ⟨#[62]⟩) by decide, show ¬ ((⟨#[33, 61]⟩ : ByteArray) = ⟨#[62, 61]⟩) by decide, show ¬ ((⟨#[33, 61]⟩ : ByteArray) = ⟨#[61, 61]⟩) by decide]
        refine hQ .ret _ ?_; exact post_ret _ _ (.tup [ii 2, ii 1]) (by simp only [go_sem, Nat.reduceEqDiff, Nat.reduceBEq, Int.reduceToNat, Int.reduceLT, Int.reduceLE, Int.reduceEq, Nat.reduceLeDiff, Nat.reduceLT, Nat.reduceMul, Nat.reduceAdd, String.reduceEq]) rfl (DropW.ck0 B cs (cs) R rw_) ⟨by rw [hgo], by rw [hgo]⟩
  · rw [if_neg s3] at hgo
    have n7 : ¬ e.s = ⟨#[61, 61]⟩ := fun h => s3 (.inl h)
    have n8 : ¬ e.s = ⟨#[33, 61]⟩ := fun h => s3 (.inr h)
    have hsub := (hA 1 cs).mem B R rw_
    rw [encE_eq] at hsub
    generalize cargs e.a 1 cs = X at hgo hsub
    refine TS.of [3] fun Q hQ => ?_
    simp only [go_sem, Nat.reduceEqDiff, Nat.reduceBEq, Int.reduceToNat, Int.reduceLT, Int.reduceLE, Int.reduceEq, Nat.reduceLeDiff, Nat.reduceLT, Nat.reduceMul, Nat.reduceAdd, String.reduceEq, encE_eq, k1, k2, k3, k4, k5, n1, n2, n3, n4, n5, n6, n7, n8]
    refine cal_eq hsub ?_
    simp only [go_sem, Nat.reduceEqDiff, Nat.reduceBEq, Int.reduceToNat, Int.reduceLT, Int.reduceLE, Int.reduceEq, Nat.reduceLeDiff, Nat.reduceLT, Nat.reduceMul, Nat.reduceAdd, String.reduceEq]
    refine hQ .ret _ ?_; exact post_ret _ _ (.tup [ii 1, ii (1 + X.1)]) (by simp only [go_sem, Nat.reduceEqDiff, Nat.reduceBEq, Int.reduceToNat, Int.reduceLT, Int.reduceLE, Int.reduceEq, Nat.reduceLeDiff, Nat.reduceLT, Nat.reduceMul, Nat.reduceAdd, String.reduceEq]) rfl (DropW.ck0 B cs (X.2) R rw_) ⟨by rw [hgo], by rw [hgo]⟩
theorem check_expr : ∀ N, N < 900000 → EC N ∧ WC N ∧ AC N := by
  intro N
  induction N using Nat.strongRecOn with
  | ind N ih =>
    intro hN
    have hE : EC N := expr_cstep hN (fun M h => (ih M h (by omega)).1) (fun M h => (ih M h (by omega)).2.1) (fun M h => (ih M h (by omega)).2.2)
    exact ⟨hE, want_step hE, args_step hN (want_step hE)⟩
theorem cexpr_sim (e : Expr) (cs : CS) (h : szE e < 900000) : SimC 81 [.agg (encE e)] cs (.tup [ii (cexpr e cs).1, ii (cexpr e cs).2.1]) (cexpr e cs).2.2 := (check_expr _ h).1 e cs (Nat.le_refl _)
theorem cwant_sim (e : Expr) (kind : Int) (cs : CS) (h : szE e < 900000) : SimC 58 [.agg (encE e), ii kind] cs (ii (cwant e kind cs).1) (cwant e kind cs).2 := (check_expr _ h).2.1 e kind cs (Nat.le_refl _)
end Go.Proofs.Ytphjldhdnmoolaa.A
/- The walks of some functions over the abstract machine. -/
namespace Go.Proofs.Ytphjldhdnmoolaa.A
open Go
def CS.changes (kind : Int) (cs : CS) : CS :=
  let c1 := { cs with md := if cs.md < (if kind = 3 ∨ kind = 4 then 2 else 3) then (if kind = 3 ∨ kind = 4 then 2 else 3) else cs.md }
  if kind = 2 then { c1 with tn := false } else c1
def clet : List Expr → Int → Int → CS → Int × Int × CS
  | [], k, n, cs => (k, n, cs)
  | e :: l, _, _, cs => clet l (cexpr e cs).1 (cexpr e cs).2.1 (cexpr e cs).2.2
def CS.dels : List Bytes → CS → CS
  | [], cs => cs
  | s :: l, cs => CS.dels l { cs with kn := delM s cs.kn }
mutual
def cstmt : Stmt → CS → Int × CS
  | .mk k s x n b e p, cs =>
    if k = 1 then (1 + (clet x 0 0 cs).2.1, (clet x 0 0 cs).2.2.declare s (clet x 0 0 cs).1 p)
    else if k = 6 then
      (1 + (cargs x 2 cs).1 + (if (cloop b [] 0 (cargs x 2 cs).2).1 < (cloop e [] 0 (cloop b [] 0 (cargs x 2 cs).2).2).1 then (cloop e [] 0 (cloop b [] 0 (cargs x 2 cs).2).2).1 else (cloop b [] 0 (cargs x 2 cs).2).1),
        (cloop e [] 0 (cloop b [] 0 (cargs x 2 cs).2).2).2)
    else if k = 7 ∨ k = 8 then
      if 64 < n then (1, (cs.declare s 1 p).fail 11 p)
      else (1 + n * (if 2049 < 1 + (cloop b [s] 0 (cs.declare s 1 p)).1 then 2049 else 1 + (cloop b [s] 0 (cs.declare s 1 p)).1), (cloop b [s] 0 (cs.declare s 1 p)).2)
    else (1 + (cargs x 1 (cs.changes k)).1, (cargs x 1 (cs.changes k)).2)
def cloop : List Stmt → List Bytes → Int → CS → Int × CS
  | [], also, n, cs => (n, cs.dels also)
  | s :: l, also, n, cs =>
    if (cstmt s cs).2.ft.isSome then (0, (cstmt s cs).2)
    else cloop l (if s.k = 1 then also ++ [s.s] else also) (n + (cstmt s cs).1) (cstmt s cs).2
end
-- loops go upward, lets have a value
mutual
def fineT : Stmt → Prop
  | .mk k _ x n b e _ => 0 ≤ n ∧ (k = 1 → x ≠ []) ∧ fineTs b ∧ fineTs e
def fineTs : List Stmt → Prop
  | [] => True
  | s :: l => fineT s ∧ fineTs l
end
/-- Names stay as they are. -/
def names (a b : CS) : Prop := b.kn = a.kn ∧ b.kc = a.kc ∧ b.us = a.us ∧ b.uc = a.uc ∧ (a.ft ≠ none → b.ft ≠ none)
theorem names.refl (a : CS) : names a a := ⟨rfl, rfl, rfl, rfl, id⟩
theorem names.trans {a b c : CS} (h : names a b) (g : names b c) : names a c := ⟨g.1.trans h.1, g.2.1.trans h.2.1, g.2.2.1.trans h.2.2.1, g.2.2.2.1.trans h.2.2.2.1, fun x => g.2.2.2.2 (h.2.2.2.2 x)⟩
theorem names.fail (a : CS) (c p : Int) : names a (a.fail c p) := by
  unfold CS.fail; split
  · exact ⟨rfl, rfl, rfl, rfl, fun _ => by simp⟩
  · exact names.refl a
theorem CS.ok.names {a b : CS} (h : a.ok) (g : names a b) : b.ok := by
  obtain ⟨g1, g2, g3, g4, _⟩ := g
  exact ⟨by rw [g1, g2]; exact h.kb, by rw [g3, g4]; exact h.ub, by rw [g3]; exact h.pos, by rw [g1, g3]; exact h.sub, by rw [g1]; exact h.kpos, by rw [g3]; exact h.ul⟩
mutual
theorem cexpr_names : ∀ (e : Expr) (cs : CS), names cs (cexpr e cs).2.2
  | .mk k _ s a p, cs => by
    unfold cexpr
    have h0 := cargs_names a 1 { cs with rd := true }
    have h1 := cargs_names a 1 cs
    have h2 := cargs_names a 2 cs
    have h3 := ceq_names a cs
    have h4 := names.fail cs 9 p
    repeat' split
    all_goals first | exact names.refl cs | exact h0 | exact h1 | exact h2 | exact h3 | exact h4
theorem cargs_names : ∀ (l : List Expr) (kind : Int) (cs : CS), names cs (cargs l kind cs).2
  | [], kind, cs => names.refl cs
  | e :: l, kind, cs => by
    rw [cargs]
    have h1 := cexpr_names e cs
    have h2 := cargs_names l kind (if (cexpr e cs).1 = kind then (cexpr e cs).2.2 else (cexpr e cs).2.2.fail 10 e.p)
    refine names.trans ?_ h2
    split
    · exact h1
    · exact h1.trans (names.fail _ _ _)
theorem ceq_names : ∀ (l : List Expr) (cs : CS), names cs (ceq l cs).2
  | [], cs => names.refl cs
  | e :: l, cs => by
    rw [ceq]
    exact (cexpr_names e cs).trans (cargs_names l _ _)
end
theorem cwant_names (e : Expr) (kind : Int) (cs : CS) : names cs (cwant e kind cs).2 := by
  unfold cwant
  dsimp only
  split
  · exact cexpr_names e cs
  · exact (cexpr_names e cs).trans (names.fail _ _ _)
theorem cexpr_pos (e : Expr) (cs : CS) (h : cs.ok) : (cexpr e cs).2.2.ft = none → 0 < (cexpr e cs).1 := by
  cases e with
  | mk k n s a p =>
    unfold cexpr
    repeat' split
    all_goals first
      | (intro _; dsimp only; omega; done)
      | (rename_i v hv; intro _; obtain ⟨e', h1, _, h3⟩ := getM_mem hv; have := h.kpos e' h1; dsimp only; omega)
      | (intro hf; exfalso; dsimp only at hf; unfold CS.fail at hf; split at hf
         · cases hf
         · rename_i hn; rw [hf] at hn; exact hn rfl)
theorem clet_names : ∀ (l : List Expr) (k n : Int) (cs : CS), names cs (clet l k n cs).2.2
  | [], k, n, cs => names.refl cs
  | e :: l, k, n, cs => by rw [clet]; exact (cexpr_names e cs).trans (clet_names l _ _ _)
theorem clet_pos : ∀ (l : List Expr) (k n : Int) (cs : CS), cs.ok → (l ≠ [] ∨ (cs.ft = none → 0 < k)) → (clet l k n cs).2.2.ft = none → 0 < (clet l k n cs).1
  | [], k, n, cs, h, hk, hf => by
    rcases hk with hk | hk
    · exact absurd rfl hk
    · exact hk hf
  | e :: l, k, n, cs, h, hk, hf => by
    rw [clet] at hf ⊢
    exact clet_pos l _ _ _ (h.names (cexpr_names e cs)) (.inr (cexpr_pos e cs h)) hf
theorem clet_le : ∀ (l : List Expr) (k n : Int) (cs : CS), 0 ≤ n → 0 ≤ (clet l k n cs).2.1 ∧ (clet l k n cs).2.1 ≤ n + szs l
  | [], k, n, cs, h => by simp [clet, szs, h]
  | e :: l, k, n, cs, h => by
    rw [clet, szs]
    have h1 := cexpr_le e cs
    have h2 := clet_le l (cexpr e cs).1 (cexpr e cs).2.1 (cexpr e cs).2.2 h1.1
    omega
theorem getM_app {s : Bytes} : ∀ {l : List Ent} {x : Ent}, getM s (l ++ [x]) = none ↔ getM s l = none ∧ s ≠ x.1
  | [], x => by simp only [List.nil_append, getM, true_and]; split <;> simp_all
  | e :: l, x => by
    simp only [List.cons_append, getM]
    split
    · simp
    · exact getM_app
theorem CS.ok.declare {cs : CS} (h : cs.ok) (name : Bytes) {kind : Int} (hk : cs.ft = none → 0 < kind) (p : Int) : (cs.declare name kind p).ok := by
  unfold CS.declare
  split
  · exact h
  · rename_i hf
    split
    · exact h.names (names.fail _ _ _)
    · split
      · exact h.names (names.fail _ _ _)
      · rename_i h3
        have hk' : 0 < kind := hk (by cases hc : cs.ft <;> simp_all)
        refine ⟨?_, ?_, ?_, ?_, ?_, ?_⟩
        · intro e he; rcases List.mem_append.1 he with he | he
          · have := h.kb e he; dsimp only; omega
          · simp at he; subst he; dsimp only; omega
        · intro e he; rcases List.mem_append.1 he with he | he
          · have := h.ub e he; dsimp only; omega
          · simp at he; subst he; dsimp only; omega
        · intro e he; rcases List.mem_append.1 he with he | he
          · exact h.pos e he
          · simp at he; subst he; exact hk'
        · intro s hs
          dsimp only at hs ⊢
          rw [getM_app] at hs ⊢
          exact ⟨h.sub s hs.1, hs.2⟩
        · intro e he; rcases List.mem_append.1 he with he | he
          · exact h.kpos e he
          · simp at he; subst he; exact hk'
        · dsimp only; simp; omega
theorem delM_sub {s : Bytes} : ∀ {l : List Ent} {e : Ent}, e ∈ delM s l → e ∈ l
  | [], e, h => by cases h
  | x :: l, e, h => by
    unfold delM at h
    split at h
    · exact List.mem_cons_of_mem _ h
    · cases h with
      | head => exact List.mem_cons_self ..
      | tail _ h => exact List.mem_cons_of_mem _ (delM_sub h)
theorem delM_get {s t : Bytes} : ∀ {l : List Ent}, getM t l = none → getM t (delM s l) = none
  | [], h => rfl
  | x :: l, h => by
    unfold getM at h
    split at h
    · cases h
    · rename_i hx
      unfold delM
      split
      · exact h
      · unfold getM; rw [if_neg hx]; exact delM_get h
theorem CS.ok.del {cs : CS} (h : cs.ok) (s : Bytes) : CS.ok { cs with kn := delM s cs.kn } :=
  ⟨fun e he => h.kb e (delM_sub he), h.ub, h.pos, fun t ht => delM_get (h.sub t ht), fun e he => h.kpos e (delM_sub he), h.ul⟩
theorem CS.ok.dels : ∀ {l : List Bytes} {cs : CS}, cs.ok → (cs.dels l).ok
  | [], cs, h => h
  | s :: l, cs, h => by rw [CS.dels]; exact CS.ok.dels (h.del s)
theorem names_changes (cs : CS) (k : Int) : names cs (cs.changes k) := by
  unfold CS.changes; dsimp only; split <;> exact ⟨rfl, rfl, rfl, rfl, id⟩
mutual
theorem cstmt_ok : ∀ (s : Stmt) (cs : CS), cs.ok → fineT s → (cstmt s cs).2.ok
  | .mk k s x n b e p, cs, h, hf => by
    unfold fineT at hf
    unfold cstmt
    split
    · exact (h.names (clet_names x 0 0 cs)).declare s (clet_pos x 0 0 cs h (.inl (hf.2.1 (by assumption)))) p
    · split
      · exact cloop_ok e [] 0 _ (cloop_ok b [] 0 _ (h.names (cargs_names x 2 cs)) hf.2.2.1) hf.2.2.2
      · split
        · have hd := h.declare s (kind := 1) (fun _ => by decide) p
          split
          · exact hd.names (names.fail _ _ _)
          · exact cloop_ok b [s] 0 _ hd hf.2.2.1
        · exact h.names ((names_changes cs k).trans (cargs_names x 1 _))
theorem cloop_ok : ∀ (l : List Stmt) (also : List Bytes) (n : Int) (cs : CS), cs.ok → fineTs l → (cloop l also n cs).2.ok
  | [], also, n, cs, h, _ => h.dels
  | s :: l, also, n, cs, h, hf => by
    unfold fineTs at hf
    unfold cloop
    have h1 := cstmt_ok s cs h hf.1
    split
    · exact h1
    · exact cloop_ok l _ _ _ h1 hf.2
end
mutual
theorem cstmt_le : ∀ (s : Stmt) (cs : CS), fineT s → 0 ≤ (cstmt s cs).1 ∧ (cstmt s cs).1 ≤ 140000 * (szT s : Int)
  | .mk k s x n b e p, cs, hf => by
    unfold fineT at hf
    unfold cstmt szT
    have hx := clet_le x 0 0 cs (by omega)
    have ha := fun k cs => cargs_le x k cs
    have hb := fun also cs => cloop_le b also 0 cs hf.2.2.1 (by omega)
    have he := fun also cs => cloop_le e also 0 cs hf.2.2.2 (by omega)
    split
    · dsimp only; omega
    · split
      · have h1 := ha 2 cs
        have h2 := hb [] (cargs x 2 cs).2
        have h3 := he [] (cloop b [] 0 (cargs x 2 cs).2).2
        dsimp only
        split <;> omega
      · split
        · split
          · dsimp only; omega
          · rename_i hn
            have h2 := hb [s] (cs.declare s 1 p)
            dsimp only
            generalize (cloop b [s] 0 (cs.declare s 1 p)).1 = q at h2 ⊢
            have hn0 := hf.1
            have hm : (if 2049 < 1 + q then 2049 else 1 + q) ≤ 2049 ∧ 0 ≤ (if 2049 < 1 + q then 2049 else 1 + q) := by split <;> omega
            generalize (if 2049 < 1 + q then 2049 else 1 + q) = z at hm ⊢
            have h5 : n * z ≤ 64 * 2049 := Int.mul_le_mul (by omega) hm.1 hm.2 (by omega)
            have h6 : 0 ≤ n * z := Int.mul_nonneg hn0 hm.2
            omega
        · have h1 := ha 1 (cs.changes k)
          dsimp only; omega
theorem cloop_le : ∀ (l : List Stmt) (also : List Bytes) (n : Int) (cs : CS), fineTs l → 0 ≤ n → 0 ≤ (cloop l also n cs).1 ∧ (cloop l also n cs).1 ≤ n + 140000 * (szt l : Int)
  | [], also, n, cs, _, h => by simp only [cloop, szt]; omega
  | s :: l, also, n, cs, hf, h => by
    unfold fineTs at hf
    unfold cloop szt
    have h1 := cstmt_le s cs hf.1
    split
    · dsimp only; omega
    · have h2 := cloop_le l (if s.k = 1 then also ++ [s.s] else also) (n + (cstmt s cs).1) (cstmt s cs).2 hf.2 (by omega)
      omega
end
end Go.Proofs.Ytphjldhdnmoolaa.A
/- The walks of some functions over the abstract machine. -/
namespace Go.Proofs.Ytphjldhdnmoolaa.A
open Go
theorem DropW.ckR (B : List IObj) (cs cs' : CS) (R X : List IObj) (R0 R1 R2 : List Nat) (h3 : R0.length ≤ R1.length) (h4 : R2.take R1.length = R1) : DropW ⟨CM B cs R, R0⟩ (B.length + (R.length + 3)) R1.length ⟨CM B cs' (R ++ X), R2⟩ ⟨CM B cs' R, R1⟩ := by
  have h := DropW.ck B cs cs' R X R0 []
  exact ⟨h.objs, h4.symm, h.lo, h3, fun o x hx hl => by
    rcases h.np o x hx hl with h0 | h0
    · exact .inl h0
    · simp only [CM] at hx
      by_cases h1 : o < B.length
      · left; rw [List.getElem?_append_left h1] at hx; simp only [CM]; rw [List.getElem?_append_left h1]; exact hx
      · rw [List.getElem?_append_right (by omega)] at hx
        generalize hk : o - B.length = k at hx
        match k, hx with
        | 0, hx => right; simp at hx; subst hx; rfl
        | 1, hx => right; simp at hx; subst hx; rfl
        | 2, hx => right; simp at hx; subst hx; simp [IObj.np, npL, IV.np, np_ft] <;> omega
        | k + 3, hx =>
          left
          simp only [CM]
          rw [List.getElem?_append_right (by omega), hk]
          simp only [List.getElem?_cons_succ] at hx ⊢
          rw [List.getElem?_append_left (by omega)] at hx
          exact hx⟩
set_option maxRecDepth 100000 in
set_option maxHeartbeats 4000000 in
theorem changes_sim (cs : CS) (kind : Int) : SimC 98 [ii kind] cs (.tup []) (cs.changes kind) := by
  intro B R rw_
  refine Sim.ofS 28 [] Try.func98 rfl rfl rfl (by simp) fun wr => ?_
  simp only [go_sem, Nat.reduceEqDiff, Nat.reduceBEq, Int.reduceToNat, Int.reduceLT, Int.reduceLE, Int.reduceEq, Nat.reduceLeDiff, Nat.reduceLT, Nat.reduceMul, Nat.reduceAdd, String.reduceEq]
  by_cases k3 : kind = 3
  · have k4 : ¬ kind = 4 := by omega
    have k2 : ¬ kind = 2 := by omega
    have hgo : cs.changes kind = { cs with md := if cs.md < 2 then 2 else cs.md } := by simp [CS.changes, k3]
    refine TS.of [] fun Q hQ => ?_
    simp only [go_sem, Nat.reduceEqDiff, Nat.reduceBEq, Int.reduceToNat, Int.reduceLT, Int.reduceLE, Int.reduceEq, Nat.reduceLeDiff, Nat.reduceLT, Nat.reduceMul, Nat.reduceAdd, String.reduceEq, k3]
    refine hQ .normal _ ?_; exact post_end _ _ (.tup []) (by simp only [go_sem, Nat.reduceEqDiff, Nat.reduceBEq, Int.reduceToNat, Int.reduceLT, Int.reduceLE, Int.reduceEq, Nat.reduceLeDiff, Nat.reduceLT, Nat.reduceMul, Nat.reduceAdd, String.reduceEq]) rfl (DropW.ck0 B cs ({ cs with md := if cs.md < 2 then 2 else cs.md }) R rw_) ⟨rfl, by rw [hgo]⟩
  · by_cases k4 : kind = 4
    · have hgo : cs.changes kind = { cs with md := if cs.md < 2 then 2 else cs.md } := by simp [CS.changes, k4]
      refine TS.of [] fun Q hQ => ?_
      simp only [go_sem, Nat.reduceEqDiff, Nat.reduceBEq, Int.reduceToNat, Int.reduceLT, Int.reduceLE, Int.reduceEq, Nat.reduceLeDiff, Nat.reduceLT, Nat.reduceMul, Nat.reduceAdd, String.reduceEq, k4]
      refine hQ .normal _ ?_; exact post_end _ _ (.tup []) (by simp only [go_sem, Nat.reduceEqDiff, Nat.reduceBEq, Int.reduceToNat, Int.reduceLT, Int.reduceLE, Int.reduceEq, Nat.reduceLeDiff, Nat.reduceLT, Nat.reduceMul, Nat.reduceAdd, String.reduceEq]) rfl (DropW.ck0 B cs ({ cs with md := if cs.md < 2 then 2 else cs.md }) R rw_) ⟨rfl, by rw [hgo]⟩
    · by_cases k2 : kind = 2
      · have hgo : cs.changes kind = { cs with md := if cs.md < 3 then 3 else cs.md, tn := false } := by simp [CS.changes, k2]
        refine TS.of [] fun Q hQ => ?_
        simp only [go_sem, Nat.reduceEqDiff, Nat.reduceBEq, Int.reduceToNat, Int.reduceLT, Int.reduceLE, Int.reduceEq, Nat.reduceLeDiff, Nat.reduceLT, Nat.reduceMul, Nat.reduceAdd, String.reduceEq, k2]
        refine hQ .normal _ ?_; exact post_end _ _ (.tup []) (by simp only [go_sem, Nat.reduceEqDiff, Nat.reduceBEq, Int.reduceToNat, Int.reduceLT, Int.reduceLE, Int.reduceEq, Nat.reduceLeDiff, Nat.reduceLT, Nat.reduceMul, Nat.reduceAdd, String.reduceEq]) rfl (DropW.ck0 B cs ({ cs with md := if cs.md < 3 then 3 else cs.md, tn := false }) R rw_) ⟨rfl, by rw [hgo]⟩
      · have hgo : cs.changes kind = { cs with md := if cs.md < 3 then 3 else cs.md } := by simp [CS.changes, k2, k3, k4]
        refine TS.of [] fun Q hQ => ?_
        simp only [go_sem, Nat.reduceEqDiff, Nat.reduceBEq, Int.reduceToNat, Int.reduceLT, Int.reduceLE, Int.reduceEq, Nat.reduceLeDiff, Nat.reduceLT, Nat.reduceMul, Nat.reduceAdd, String.reduceEq, k2, k3, k4]
        refine hQ .normal _ ?_; exact post_end _ _ (.tup []) (by simp only [go_sem, Nat.reduceEqDiff, Nat.reduceBEq, Int.reduceToNat, Int.reduceLT, Int.reduceLE, Int.reduceEq, Nat.reduceLeDiff, Nat.reduceLT, Nat.reduceMul, Nat.reduceAdd, String.reduceEq]) rfl (DropW.ck0 B cs ({ cs with md := if cs.md < 3 then 3 else cs.md }) R rw_) ⟨rfl, by rw [hgo]⟩
theorem encT_all (s : Stmt) : encT s = [ii s.k, ss s.s, slE s.x, ii s.n, slT s.b, slT s.e, ii s.p] := encT_eq s
set_option maxRecDepth 100000 in
set_option maxHeartbeats 4000000 in
theorem numbers_sim (s : Stmt) (cs : CS) (hN : szs s.x < 800000) : SimC 99 [.agg (encT s)] cs (ii (cargs s.x 1 cs).1) (cargs s.x 1 cs).2 := by
  intro B R rw_
  refine Sim.ofS 22 [.tmp 4] Try.func99 rfl rfl rfl (by simp) fun wr => ?_
  simp only [go_sem, Nat.reduceEqDiff, Nat.reduceBEq, Int.reduceToNat, Int.reduceLT, Int.reduceLE, Int.reduceEq, Nat.reduceLeDiff, Nat.reduceLT, Nat.reduceMul, Nat.reduceAdd, String.reduceEq]
  have hll := szs_len s.x
  refine TS.seq (TS.of [3] fun Q hQ => ?_)
  simp only [go_sem, Nat.reduceEqDiff, Nat.reduceBEq, Int.reduceToNat, Int.reduceLT, Int.reduceLE, Int.reduceEq, Nat.reduceLeDiff, Nat.reduceLT, Nat.reduceMul, Nat.reduceAdd, String.reduceEq, encT_eq]
  refine hQ .normal _ ?_; clear hQ Q
  refine TS.seq (TS.of [] fun Q hQ => ?_)
  simp only [go_sem, Nat.reduceEqDiff, Nat.reduceBEq, Int.reduceToNat, Int.reduceLT, Int.reduceLE, Int.reduceEq, Nat.reduceLeDiff, Nat.reduceLT, Nat.reduceMul, Nat.reduceAdd, String.reduceEq]
  refine hQ .normal _ ?_; clear hQ Q
  refine TS.seq (TS.seq (TS.of [] fun Q hQ => ?_))
  simp only [go_sem, Nat.reduceEqDiff, Nat.reduceBEq, Int.reduceToNat, Int.reduceLT, Int.reduceLE, Int.reduceEq, Nat.reduceLeDiff, Nat.reduceLT, Nat.reduceMul, Nat.reduceAdd, String.reduceEq]
  refine hQ .normal _ ?_; clear hQ Q
  refine TS.block (TS.loop (α := Nat × Int × CS) (fun x => [(0, .ptr (B.length + 2) 0), (5, ii x.2.1), (9, slE s.x), (10, ii s.x.length), (11, ii x.1)]) (fun x => ⟨CM B x.2.2 R, rw_⟩) (fun x => x.1 ≤ s.x.length ∧ 0 ≤ x.2.1 ∧ x.2.1 + szs (s.x.drop x.1) ≤ szs s.x ∧ x.2.1 + (cargs (s.x.drop x.1) 1 x.2.2).1 = (cargs s.x 1 cs).1 ∧ (cargs (s.x.drop x.1) 1 x.2.2).2 = (cargs s.x 1 cs).2) (fun x => s.x.length - x.1) (0, 0, cs) (by simp) ⟨by simp [Has, upd_apply, argsT], rfl, by simp⟩ ?_)
  rintro ⟨k, n, c1⟩ st hH hm ⟨hk, hn0, hn1, hc1, hc2⟩
  dsimp only at hH hm hk hn0 hn1 hc1 hc2
  simp only [Has, List.mem_cons, List.not_mem_nil, or_false, forall_eq_or_imp, forall_eq] at hH; obtain ⟨i0, i5, i9, i10, i11⟩ := hH
  by_cases hlt : k < s.x.length
  · obtain ⟨x, hx⟩ : ∃ x, s.x[k]? = some x := ⟨_, List.getElem?_eq_getElem hlt⟩
    have hdr : s.x.drop k = x :: s.x.drop (k + 1) := by rw [List.drop_eq_getElem_cons hlt]; congr 1; exact Option.some.inj ((List.getElem?_eq_getElem hlt).symm.trans hx)
    have hat := encEs_at hx
    have hlt5 : k * 5 < (encEs s.x).length := by rw [encEs_length]; omega
    have hw := wrap_succ hlt (by omega)
    have hsz := szE_at hx
    rw [hdr, cargs_cons] at hc1 hc2
    rw [hdr, szs] at hn1
    have hcw : 0 ≤ (cwant x 1 c1).1 ∧ (cwant x 1 c1).1 ≤ szE x := cexpr_le x c1
    have hsub := (cwant_sim x 1 c1 (by omega)).mem B (R ++ [.cells (encE x)]) rw_
    rw [encE_eq] at hsub
    generalize cwant x 1 c1 = X at hc1 hc2 hsub hcw
    have hw2 : IntKind.i64.wrap (n + X.1) = n + X.1 := wrap_small (by omega) (by omega)
    refine TS.of [] fun Q hQ => ?_
    simp only [go_sem, Nat.reduceEqDiff, Nat.reduceBEq, Int.reduceToNat, Int.reduceLT, Int.reduceLE, Int.reduceEq, Nat.reduceLeDiff, Nat.reduceLT, Nat.reduceMul, Nat.reduceAdd, String.reduceEq, i0, i5, i9, i10, i11, hm, hlt, hat, hlt5]
    refine cal_eq hsub ?_
    simp only [go_sem, Nat.reduceEqDiff, Nat.reduceBEq, Int.reduceToNat, Int.reduceLT, Int.reduceLE, Int.reduceEq, Nat.reduceLeDiff, Nat.reduceLT, Nat.reduceMul, Nat.reduceAdd, String.reduceEq, i0, i5, i9, i10, i11, hw, hw2]
    refine hQ .normal _ ?_; clear hQ Q
    refine ⟨_, _, (k + 1, n + X.1, X.2), DropW.ckX B c1 X.2 R rw_ _, ?_, ⟨hlt, by dsimp only; omega, by dsimp only; omega, by dsimp only at hc1 ⊢; omega, hc2⟩, by dsimp only; omega⟩
    simp [upd_apply, i0, i9, i10, IV.np, np_sh, npEs] <;> omega
  · refine TS.of [] fun Q hQ => ?_
    simp only [go_sem, Nat.reduceEqDiff, Nat.reduceBEq, Int.reduceToNat, Int.reduceLT, Int.reduceLE, Int.reduceEq, Nat.reduceLeDiff, Nat.reduceLT, Nat.reduceMul, Nat.reduceAdd, String.reduceEq, i0, i5, i9, i10, i11, hm, hlt]
    refine hQ (.exit 0) _ ?_; clear hQ Q
    have : s.x.drop k = [] := List.drop_eq_nil_of_le (by omega)
    rw [this] at hc1 hc2
    simp only [cargs] at hc1 hc2
    refine TS.of [] fun Q hQ => ?_
    simp only [go_sem, Nat.reduceEqDiff, Nat.reduceBEq, Int.reduceToNat, Int.reduceLT, Int.reduceLE, Int.reduceEq, Nat.reduceLeDiff, Nat.reduceLT, Nat.reduceMul, Nat.reduceAdd, String.reduceEq, i0, i5, i9, i10, i11]
    refine hQ .ret _ ?_; exact post_ret _ _ (ii n) (by simp only [go_sem, Nat.reduceEqDiff, Nat.reduceBEq, Int.reduceToNat, Int.reduceLT, Int.reduceLE, Int.reduceEq, Nat.reduceLeDiff, Nat.reduceLT, Nat.reduceMul, Nat.reduceAdd, String.reduceEq]) rfl (DropW.ck0 B cs (c1) R rw_) ⟨by rw [show (cargs s.x 1 cs).1 = n by omega], by rw [hc2]⟩
def TC (N : Nat) : Prop := ∀ (s : Stmt) (cs : CS), szT s ≤ N → cs.ok → fineT s → SimC 82 [.agg (encT s)] cs (ii (cstmt s cs).1) (cstmt s cs).2
def BC (N : Nat) : Prop := ∀ (l : List Stmt) (also : List Bytes) (cs : CS), szt l ≤ N → cs.ok → fineTs l → also.length ≤ 1 → SimC 59 [slT l, .sl .full also.length (also.map (IV.v <| .string ·))] cs (ii (cloop l also 0 cs).1) (cloop l also 0 cs).2
def rowJ (rw_ : List Nat) (j n : Nat) : List Nat := if j = 0 then rw_ else rw_ ++ [n]
theorem rowJ_app (rw_ : List Nat) (j n : Nat) : app (rowJ rw_ j n) 9 n 1 (accK rw_.length 9 j) = some (accK rw_.length 9 (j + 1), rowJ rw_ (j + 1) (n + 1)) := by
  unfold app rowJ accK
  rw [if_neg (by decide)]
  by_cases h : j = 0
  · subst h; simp
  · simp [h]
theorem rowJ_len (rw_ : List Nat) (j n n' : Nat) : (rowJ rw_ j n).length ≤ (rowJ rw_ (j + 1) n').length := by
  unfold rowJ; split <;> simp
theorem rowJ_take (rw_ : List Nat) (j n : Nat) : (rowJ rw_ j n).take rw_.length = rw_ := by unfold rowJ; split <;> simp
theorem rowJ_np (rw_ : List Nat) (j n : Nat) : (accK rw_.length 9 j).np (rowJ rw_ j n).length = true := by
  unfold rowJ accK
  by_cases h : j = 0
  · simp [h, SK.np]
  · simp [h, SK.np]
set_option maxRecDepth 100000 in
set_option maxHeartbeats 4000000 in
theorem block_cstep {N : Nat} (hNb : N < 800000) (ih : TC N) : BC N := by
  intro l also cs hN hok hfine hal B R rw_
  refine Sim.ofS 50 [.tmp 6] Try.func59 rfl rfl rfl (by simp) fun wr => ?_
  simp only [go_sem, Nat.reduceEqDiff, Nat.reduceBEq, Int.reduceToNat, Int.reduceLT, Int.reduceLE, Int.reduceEq, Nat.reduceLeDiff, Nat.reduceLT, Nat.reduceMul, Nat.reduceAdd, String.reduceEq]
  have hll := szt_len l
  generalize htgt : cloop l also 0 cs = tgt
  refine TS.seq (TS.of [] fun Q hQ => ?_)
  simp only [go_sem, Nat.reduceEqDiff, Nat.reduceBEq, Int.reduceToNat, Int.reduceLT, Int.reduceLE, Int.reduceEq, Nat.reduceLeDiff, Nat.reduceLT, Nat.reduceMul, Nat.reduceAdd, String.reduceEq]
  refine hQ .normal _ ?_; clear hQ Q
  refine TS.seq (TS.of [] fun Q hQ => ?_)
  simp only [go_sem, Nat.reduceEqDiff, Nat.reduceBEq, Int.reduceToNat, Int.reduceLT, Int.reduceLE, Int.reduceEq, Nat.reduceLeDiff, Nat.reduceLT, Nat.reduceMul, Nat.reduceAdd, String.reduceEq]
  refine hQ .normal _ ?_; clear hQ Q
  refine TS.seq (TS.seq (TS.of [] fun Q hQ => ?_))
  simp only [go_sem, Nat.reduceEqDiff, Nat.reduceBEq, Int.reduceToNat, Int.reduceLT, Int.reduceLE, Int.reduceEq, Nat.reduceLeDiff, Nat.reduceLT, Nat.reduceMul, Nat.reduceAdd, String.reduceEq]
  refine hQ .normal _ ?_; clear hQ Q
  refine TS.block (TS.loop (α := Nat × Nat × List Bytes × Int × CS) (fun x => [(0, .ptr (B.length + 2) 0), (2, .sl (accK rw_.length 9 x.2.1) x.2.2.1.length (x.2.2.1.map (IV.v <| .string ·))), (7, ii x.2.2.2.1), (12, slT l), (13, ii l.length), (14, ii x.1)]) (fun x => ⟨CM B x.2.2.2.2 R, rowJ rw_ x.2.1 x.2.2.1.length⟩)
    (fun x => x.1 ≤ l.length ∧ x.2.2.2.2.ok ∧ fineTs (l.drop x.1) ∧ 0 ≤ x.2.2.2.1 ∧ x.2.2.2.1 + 140000 * (szt (l.drop x.1) : Int) ≤ 140000 * (szt l : Int) ∧ x.2.2.1.length ≤ x.1 + 1 ∧ cloop (l.drop x.1) x.2.2.1 x.2.2.2.1 x.2.2.2.2 = tgt) (fun x => l.length - x.1) (0, 0, also, 0, cs) (by simp) ⟨by simp [Has, upd_apply, argsT, accK], rfl, by simp [hok, hfine, hal, htgt]⟩ ?_)
  rintro ⟨k, j, al, n, c1⟩ st hH hm ⟨hk, hok1, hfi, hn0, hn1, hal1, hc⟩
  dsimp only at hH hm hk hok1 hfi hn0 hn1 hal1 hc
  simp only [Has, List.mem_cons, List.not_mem_nil, or_false, forall_eq_or_imp, forall_eq] at hH; obtain ⟨i0, i2, i7, i12, i13, i14⟩ := hH
  by_cases hlt : k < l.length
  · obtain ⟨x, hx⟩ : ∃ x, l[k]? = some x := ⟨_, List.getElem?_eq_getElem hlt⟩
    have hdr : l.drop k = x :: l.drop (k + 1) := by rw [List.drop_eq_getElem_cons hlt]; congr 1; exact Option.some.inj ((List.getElem?_eq_getElem hlt).symm.trans hx)
    have hat := encTs_at hx
    have hlt7 : k * 7 < (encTs l).length := by rw [encTs_length]; omega
    have hw := wrap_succ hlt (by omega)
    have hsz := szT_at hx
    rw [hdr, fineTs] at hfi
    rw [hdr, szt] at hn1
    rw [hdr, cloop] at hc
    have hle := cstmt_le x c1 hfi.1
    have hok2 := cstmt_ok x c1 hok1 hfi.1
    have hsub := (ih x c1 (by omega) hok1 hfi.1).mem B (R ++ [.cells (encT x)]) (rowJ rw_ j al.length)
    rw [encT_eq] at hsub
    generalize cstmt x c1 = X at hc hsub hle hok2
    have hw2 : IntKind.i64.wrap (n + X.1) = n + X.1 := wrap_small (by omega) (by omega)
    have happ := rowJ_app rw_ j al.length
    have hbound : (al.length + 1) * 16 ≤ 140737488355328 := by omega
    have hlen : (al.map (fun s => (IV.v (.string s)))).length = al.length := by simp
    by_cases k1 : x.k = 1
    · rw [if_pos k1] at hc
      cases hf : X.2.ft with
      | none =>
        rw [hf] at hc
        rw [if_neg (by simp)] at hc
        refine TS.of [] fun Q hQ => ?_
        simp only [go_sem, Nat.reduceEqDiff, Nat.reduceBEq, Int.reduceToNat, Int.reduceLT, Int.reduceLE, Int.reduceEq, Nat.reduceLeDiff, Nat.reduceLT, Nat.reduceMul, Nat.reduceAdd, String.reduceEq, i0, i2, i7, i12, i13, i14, hm, hlt, hat, hlt7]
        refine cal_eq hsub ?_
        simp only [go_sem, Nat.reduceEqDiff, Nat.reduceBEq, Int.reduceToNat, Int.reduceLT, Int.reduceLE, Int.reduceEq, Nat.reduceLeDiff, Nat.reduceLT, Nat.reduceMul, Nat.reduceAdd, String.reduceEq, i0, i2, i7, i12, i13, i14, hw, hw2, k1, happ, hbound, hlen, hf, ftI_none]
        refine hQ .normal _ ?_; clear hQ Q
        have hl1 : (al ++ [x.s] : List Bytes).length = al.length + 1 := by simp
        refine ⟨B.length + (R.length + 3), (rowJ rw_ (j + 1) (al.length + 1)).length, (k + 1, j + 1, al ++ [x.s], n + X.1, X.2), ?_, ?_, ⟨by dsimp only; omega, hok2, hfi.2, by dsimp only; omega, by dsimp only; omega, by dsimp only; rw [hl1]; omega, hc⟩, by dsimp only; omega⟩
        · dsimp only; rw [hl1]
          exact DropW.ckR B c1 X.2 R _ _ _ _ (rowJ_len _ _ _ _) (by simp)
        · dsimp only; rw [hl1]
          simp [upd_apply, i0, i12, i13, IV.np, np_sh, npTs, npS, rowJ_np, npL_app, npL] <;> omega
      | some p =>
        rw [hf, if_pos (by simp)] at hc
        refine TS.of [] fun Q hQ => ?_
        simp only [go_sem, Nat.reduceEqDiff, Nat.reduceBEq, Int.reduceToNat, Int.reduceLT, Int.reduceLE, Int.reduceEq, Nat.reduceLeDiff, Nat.reduceLT, Nat.reduceMul, Nat.reduceAdd, String.reduceEq, i0, i2, i7, i12, i13, i14, hm, hlt, hat, hlt7]
        refine cal_eq hsub ?_
        simp only [go_sem, Nat.reduceEqDiff, Nat.reduceBEq, Int.reduceToNat, Int.reduceLT, Int.reduceLE, Int.reduceEq, Nat.reduceLeDiff, Nat.reduceLT, Nat.reduceMul, Nat.reduceAdd, String.reduceEq, i0, i2, i7, i12, i13, i14, hw, hw2, k1, happ, hbound, hlen, hf, ftI_some]
        refine hQ .ret _ ?_; clear hQ Q
        exact post_ret _ _ (ii 0) (by simp only [upd_apply, res, resL, res1, IV.sh]; rfl) rfl (DropW.ckR B cs X.2 R [_] rw_ rw_ (rowJ rw_ (j + 1) (al.length + 1)) (Nat.le_refl _) (rowJ_take _ _ _)) ⟨by rw [← hc], by rw [← hc]⟩
    · rw [if_neg k1] at hc
      cases hf : X.2.ft with
      | none =>
        rw [hf] at hc
        rw [if_neg (by simp)] at hc
        refine TS.of [] fun Q hQ => ?_
        simp only [go_sem, Nat.reduceEqDiff, Nat.reduceBEq, Int.reduceToNat, Int.reduceLT, Int.reduceLE, Int.reduceEq, Nat.reduceLeDiff, Nat.reduceLT, Nat.reduceMul, Nat.reduceAdd, String.reduceEq, i0, i2, i7, i12, i13, i14, hm, hlt, hat, hlt7]
        refine cal_eq hsub ?_
        simp only [go_sem, Nat.reduceEqDiff, Nat.reduceBEq, Int.reduceToNat, Int.reduceLT, Int.reduceLE, Int.reduceEq, Nat.reduceLeDiff, Nat.reduceLT, Nat.reduceMul, Nat.reduceAdd, String.reduceEq, i0, i2, i7, i12, i13, i14, hw, hw2, k1, happ, hbound, hlen, hf, ftI_none]
        refine hQ .normal _ ?_; clear hQ Q
        refine ⟨B.length + (R.length + 3), (rowJ rw_ j al.length).length, (k + 1, j, al, n + X.1, X.2), DropW.ckR B c1 X.2 R [_] _ _ _ (Nat.le_refl _) (by simp), ?_, ⟨by dsimp only; omega, hok2, hfi.2, by dsimp only; omega, by dsimp only; omega, by dsimp only; omega, hc⟩, by dsimp only; omega⟩
        simp [upd_apply, i0, i2, i12, i13, IV.np, np_sh, npTs, npS, rowJ_np] <;> omega
      | some p =>
        rw [hf, if_pos (by simp)] at hc
        refine TS.of [] fun Q hQ => ?_
        simp only [go_sem, Nat.reduceEqDiff, Nat.reduceBEq, Int.reduceToNat, Int.reduceLT, Int.reduceLE, Int.reduceEq, Nat.reduceLeDiff, Nat.reduceLT, Nat.reduceMul, Nat.reduceAdd, String.reduceEq, i0, i2, i7, i12, i13, i14, hm, hlt, hat, hlt7]
        refine cal_eq hsub ?_
        simp only [go_sem, Nat.reduceEqDiff, Nat.reduceBEq, Int.reduceToNat, Int.reduceLT, Int.reduceLE, Int.reduceEq, Nat.reduceLeDiff, Nat.reduceLT, Nat.reduceMul, Nat.reduceAdd, String.reduceEq, i0, i2, i7, i12, i13, i14, hw, hw2, k1, happ, hbound, hlen, hf, ftI_some]
        refine hQ .ret _ ?_; clear hQ Q
        exact post_ret _ _ (ii 0) (by simp only [upd_apply, res, resL, res1, IV.sh]; rfl) rfl (DropW.ckR B cs X.2 R [_] rw_ rw_ (rowJ rw_ j al.length) (Nat.le_refl _) (rowJ_take _ _ _)) ⟨by rw [← hc], by rw [← hc]⟩
  · have : l.drop k = [] := List.drop_eq_nil_of_le (by omega)
    rw [this, cloop] at hc
    refine TS.of [] fun Q hQ => ?_
    simp only [go_sem, Nat.reduceEqDiff, Nat.reduceBEq, Int.reduceToNat, Int.reduceLT, Int.reduceLE, Int.reduceEq, Nat.reduceLeDiff, Nat.reduceLT, Nat.reduceMul, Nat.reduceAdd, String.reduceEq, i0, i2, i7, i12, i13, i14, hm, hlt]
    refine hQ (.exit 0) _ ?_; clear hQ Q
    refine TS.seq (TS.seq (TS.of [] fun Q hQ => ?_))
    simp only [go_sem, Nat.reduceEqDiff, Nat.reduceBEq, Int.reduceToNat, Int.reduceLT, Int.reduceLE, Int.reduceEq, Nat.reduceLeDiff, Nat.reduceLT, Nat.reduceMul, Nat.reduceAdd, String.reduceEq, i0, i2, i7, i12, i13, i14]
    refine hQ .normal _ ?_; clear hQ Q
    refine TS.block (TS.loop (α := Nat × CS) (fun x => [(0, .ptr (B.length + 2) 0), (7, ii n), (37, .sl (accK rw_.length 9 j) al.length (al.map (IV.v <| .string ·))), (38, ii al.length), (39, ii x.1)]) (fun x => ⟨CM B x.2 R, rowJ rw_ j al.length⟩) (fun x => x.1 ≤ al.length ∧ (n, x.2.dels (al.drop x.1)) = tgt) (fun x => al.length - x.1) (0, c1) (by simp) ⟨by simp [Has, upd_apply, i0, i7], rfl, by simp [hc]⟩ ?_)
    rintro ⟨q, c2⟩ s2 hH hm2 ⟨hq, hc2⟩
    dsimp only at hH hm2 hq hc2
    simp only [Has, List.mem_cons, List.not_mem_nil, or_false, forall_eq_or_imp, forall_eq] at hH; obtain ⟨j0, j7, j37, j38, j39⟩ := hH
    by_cases hql : q < al.length
    · obtain ⟨x, hx⟩ : ∃ x, al[q]? = some x := ⟨_, List.getElem?_eq_getElem hql⟩
      have hdr : al.drop q = x :: al.drop (q + 1) := by rw [List.drop_eq_getElem_cons hql]; congr 1; exact Option.some.inj ((List.getElem?_eq_getElem hql).symm.trans hx)
      have hat : (al.map (fun s => (IV.v (.string s)))).drop q = ss x :: (al.drop (q + 1)).map (fun s => (IV.v (.string s))) := by rw [← List.map_drop, hdr]; rfl
      have hlt1 : q < (al.map (fun s => (IV.v (.string s)))).length := by simpa using hql
      have hw := wrap_succ hql (by omega)
      rw [hdr, CS.dels] at hc2
      refine TS.of [] fun Q hQ => ?_
      simp only [go_sem, Nat.reduceEqDiff, Nat.reduceBEq, Int.reduceToNat, Int.reduceLT, Int.reduceLE, Int.reduceEq, Nat.reduceLeDiff, Nat.reduceLT, Nat.reduceMul, Nat.reduceAdd, String.reduceEq, j0, j7, j37, j38, j39, hm2, hql, hat, hlt1, hw, Mem.map_, mlook_enc, mdel_enc]
      refine hQ .normal _ ?_; clear hQ Q
      refine ⟨B.length + (R.length + 3), (rowJ rw_ j al.length).length, (q + 1, { c2 with kn := delM x c2.kn }), ?_, ?_, ⟨by dsimp only; omega, hc2⟩, by dsimp only; omega⟩
      · have := DropW.ckR B c2 { c2 with kn := delM x c2.kn } R [] (rowJ rw_ j al.length) (rowJ rw_ j al.length) (rowJ rw_ j al.length) (Nat.le_refl _) (by simp)
        rw [List.append_nil] at this
        exact this
      · simp [upd_apply, j0, j7, j37, j38, IV.np, npS, rowJ_np] <;> omega
    · have : al.drop q = [] := List.drop_eq_nil_of_le (by omega)
      rw [this, CS.dels] at hc2
      refine TS.of [] fun Q hQ => ?_
      simp only [go_sem, Nat.reduceEqDiff, Nat.reduceBEq, Int.reduceToNat, Int.reduceLT, Int.reduceLE, Int.reduceEq, Nat.reduceLeDiff, Nat.reduceLT, Nat.reduceMul, Nat.reduceAdd, String.reduceEq, j0, j7, j37, j38, j39, hm2, hql]
      refine hQ (.exit 2) _ ?_; clear hQ Q
      refine TS.of [] fun Q hQ => ?_
      simp only [go_sem, Nat.reduceEqDiff, Nat.reduceBEq, Int.reduceToNat, Int.reduceLT, Int.reduceLE, Int.reduceEq, Nat.reduceLeDiff, Nat.reduceLT, Nat.reduceMul, Nat.reduceAdd, String.reduceEq, j0, j7, j37, j38, j39, hm2]
      refine hQ .ret _ ?_; clear hQ Q
      have hdw := DropW.ckR B cs c2 R [] rw_ rw_ (rowJ rw_ j al.length) (Nat.le_refl _) (rowJ_take _ _ _)
      rw [List.append_nil] at hdw
      exact post_ret _ _ (ii n) (by simp only [upd_apply, res, resL, res1, IV.sh]; rfl) rfl hdw ⟨by rw [← hc2], by rw [← hc2]⟩
end Go.Proofs.Ytphjldhdnmoolaa.A
/- The walks of some functions over the abstract machine. -/
namespace Go.Proofs.Ytphjldhdnmoolaa.A
open Go
set_option maxRecDepth 100000 in
set_option maxHeartbeats 4000000 in
theorem stmt_cstep {N : Nat} (hNb : N < 800000) (ih : ∀ M, M < N → BC M) : TC N := by
  intro s cs hN hok hfine B R rw_
  have hsz := szT_eq s
  have hll := szs_len s.x
  have hgo : cstmt s cs = cstmt s cs := rfl
  conv at hgo => rhs; rw [show s = .mk s.k s.s s.x s.n s.b s.e s.p by cases s; rfl]; unfold cstmt
  have hfi : 0 ≤ s.n ∧ (s.k = 1 → s.x ≠ []) ∧ fineTs s.b ∧ fineTs s.e := by
    have h := hfine
    rw [show s = .mk s.k s.s s.x s.n s.b s.e s.p by cases s; rfl] at h
    unfold fineT at h
    exact h
  obtain ⟨hf1, hf2, hf3, hf4⟩ := hfi
  refine Sim.ofS 102 [.tmp 4] Try.func82 rfl rfl rfl (by simp) fun wr => ?_
  simp only [go_sem, Nat.reduceEqDiff, Nat.reduceBEq, Int.reduceToNat, Int.reduceLT, Int.reduceLE, Int.reduceEq, Nat.reduceLeDiff, Nat.reduceLT, Nat.reduceMul, Nat.reduceAdd, String.reduceEq]
  refine TS.seq (TS.of [3] fun Q hQ => ?_)
  simp only [go_sem, Nat.reduceEqDiff, Nat.reduceBEq, Int.reduceToNat, Int.reduceLT, Int.reduceLE, Int.reduceEq, Nat.reduceLeDiff, Nat.reduceLT, Nat.reduceMul, Nat.reduceAdd, String.reduceEq, encT_eq]
  refine hQ .normal _ ?_; clear hQ Q
  refine TS.seq (TS.seq (TS.of [] fun Q hQ => ?_))
  simp only [go_sem, Nat.reduceEqDiff, Nat.reduceBEq, Int.reduceToNat, Int.reduceLT, Int.reduceLE, Int.reduceEq, Nat.reduceLeDiff, Nat.reduceLT, Nat.reduceMul, Nat.reduceAdd, String.reduceEq]
  refine hQ .normal _ ?_; clear hQ Q
  refine TS.block (TS.seq (TS.of [] fun Q hQ => ?_))
  by_cases k1 : s.k = 1
  · rw [if_pos k1] at hgo
    have hpos := clet_pos s.x 0 0 cs hok (.inl (hf2 k1))
    have hcle := clet_le s.x 0 0 cs (by omega)
    have hcn := clet_names s.x 0 0 cs
    generalize hcl : clet s.x 0 0 cs = C at hgo hpos hcle hcn
    simp only [go_sem, Nat.reduceEqDiff, Nat.reduceBEq, Int.reduceToNat, Int.reduceLT, Int.reduceLE, Int.reduceEq, Nat.reduceLeDiff, Nat.reduceLT, Nat.reduceMul, Nat.reduceAdd, String.reduceEq, k1]
    refine hQ .normal _ ?_; clear hQ Q
    refine TS.cond (t := true) (by simp only [go_sem, Nat.reduceEqDiff, Nat.reduceBEq, Int.reduceToNat, Int.reduceLT, Int.reduceLE, Int.reduceEq, Nat.reduceLeDiff, Nat.reduceLT, Nat.reduceMul, Nat.reduceAdd, String.reduceEq, k1]) ?_
    refine TS.seq (TS.of [] fun Q hQ => ?_)
    simp only [go_sem, Nat.reduceEqDiff, Nat.reduceBEq, Int.reduceToNat, Int.reduceLT, Int.reduceLE, Int.reduceEq, Nat.reduceLeDiff, Nat.reduceLT, Nat.reduceMul, Nat.reduceAdd, String.reduceEq, k1]
    refine hQ .normal _ ?_; clear hQ Q
    refine TS.seq (TS.seq (TS.of [] fun Q hQ => ?_))
    simp only [go_sem, Nat.reduceEqDiff, Nat.reduceBEq, Int.reduceToNat, Int.reduceLT, Int.reduceLE, Int.reduceEq, Nat.reduceLeDiff, Nat.reduceLT, Nat.reduceMul, Nat.reduceAdd, String.reduceEq, k1]
    refine hQ .normal _ ?_; clear hQ Q
    refine TS.block (TS.loop (α := Nat × Int × Int × CS) (fun x => [(0, .ptr (B.length + 2) 0), (3, .ref [ii 1, ss s.s, slE s.x, ii s.n, slT s.b, slT s.e, ii s.p]), (5, ii x.2.1), (6, ii x.2.2.1), (17, slE s.x), (18, ii s.x.length), (19, ii x.1)]) (fun x => ⟨CM B x.2.2.2 R, rw_⟩) (fun x => x.1 ≤ s.x.length ∧ clet (s.x.drop x.1) x.2.1 x.2.2.1 x.2.2.2 = C) (fun x => s.x.length - x.1) (0, 0, 0, cs) (by simp) ⟨by simp [Has, upd_apply, argsT, k1], rfl, by simp [hcl]⟩ ?_)
    rintro ⟨k, a, n, c1⟩ st hH hm ⟨hk, hc⟩
    dsimp only at hH hm hk hc
    simp only [Has, List.mem_cons, List.not_mem_nil, or_false, forall_eq_or_imp, forall_eq] at hH; obtain ⟨i0, i3, i5, i6, i17, i18, i19⟩ := hH
    by_cases hlt : k < s.x.length
    · obtain ⟨x, hx⟩ : ∃ x, s.x[k]? = some x := ⟨_, List.getElem?_eq_getElem hlt⟩
      have hdr : s.x.drop k = x :: s.x.drop (k + 1) := by rw [List.drop_eq_getElem_cons hlt]; congr 1; exact Option.some.inj ((List.getElem?_eq_getElem hlt).symm.trans hx)
      have hat := encEs_at hx
      have hlt5 : k * 5 < (encEs s.x).length := by rw [encEs_length]; omega
      have hw := wrap_succ hlt (by omega)
      have hszx := szE_at hx
      rw [hdr, clet] at hc
      have hsub := (cexpr_sim x c1 (by omega)).mem B (R ++ [.cells (encE x)]) rw_
      rw [encE_eq] at hsub
      generalize cexpr x c1 = X at hc hsub
      refine TS.of [] fun Q hQ => ?_
      simp only [go_sem, Nat.reduceEqDiff, Nat.reduceBEq, Int.reduceToNat, Int.reduceLT, Int.reduceLE, Int.reduceEq, Nat.reduceLeDiff, Nat.reduceLT, Nat.reduceMul, Nat.reduceAdd, String.reduceEq, i0, i3, i5, i6, i17, i18, i19, hm, hlt, hat, hlt5]
      refine cal_eq hsub ?_
      simp only [go_sem, Nat.reduceEqDiff, Nat.reduceBEq, Int.reduceToNat, Int.reduceLT, Int.reduceLE, Int.reduceEq, Nat.reduceLeDiff, Nat.reduceLT, Nat.reduceMul, Nat.reduceAdd, String.reduceEq, i0, i3, i5, i6, i17, i18, i19, hw]
      refine hQ .normal _ ?_; clear hQ Q
      refine ⟨_, _, (k + 1, X.1, X.2.1, X.2.2), DropW.ckX B c1 X.2.2 R rw_ _, ?_, ⟨hlt, hc⟩, by dsimp only; omega⟩
      simp [upd_apply, i0, i3, i17, i18, IV.np, np_sh, npEs, npTs, npL] <;> omega
    · refine TS.of [] fun Q hQ => ?_
      simp only [go_sem, Nat.reduceEqDiff, Nat.reduceBEq, Int.reduceToNat, Int.reduceLT, Int.reduceLE, Int.reduceEq, Nat.reduceLeDiff, Nat.reduceLT, Nat.reduceMul, Nat.reduceAdd, String.reduceEq, i0, i3, i5, i6, i17, i18, i19, hm, hlt]
      refine hQ (.exit 1) _ ?_; clear hQ Q
      have : s.x.drop k = [] := List.drop_eq_nil_of_le (by omega)
      rw [this, clet] at hc
      subst hc
      dsimp only at hcle hcn
      have hw1 : IntKind.i64.wrap (1 + n) = 1 + n := wrap_small (by omega) (by omega)
      have hok1 : c1.ok := hok.names hcn
      refine TS.of [] fun Q hQ => ?_
      simp only [go_sem, Nat.reduceEqDiff, Nat.reduceBEq, Int.reduceToNat, Int.reduceLT, Int.reduceLE, Int.reduceEq, Nat.reduceLeDiff, Nat.reduceLT, Nat.reduceMul, Nat.reduceAdd, String.reduceEq, i0, i3, i5, i6, i17, i18, i19]
      refine cal_eq (declare_sim c1 hok1 (by have := hok1.ul; omega) s.s a s.p B R rw_) ?_
      simp only [go_sem, Nat.reduceEqDiff, Nat.reduceBEq, Int.reduceToNat, Int.reduceLT, Int.reduceLE, Int.reduceEq, Nat.reduceLeDiff, Nat.reduceLT, Nat.reduceMul, Nat.reduceAdd, String.reduceEq, i0, i3, i5, i6, i17, i18, i19, hw1]
      refine hQ .ret _ ?_; exact post_ret _ _ (ii (1 + n)) (by simp only [go_sem, Nat.reduceEqDiff, Nat.reduceBEq, Int.reduceToNat, Int.reduceLT, Int.reduceLE, Int.reduceEq, Nat.reduceLeDiff, Nat.reduceLT, Nat.reduceMul, Nat.reduceAdd, String.reduceEq]) rfl (DropW.ck0 B cs (c1.declare s.s a s.p) R rw_) ⟨by rw [hgo], by rw [hgo]⟩
  rw [if_neg k1] at hgo
  simp only [go_sem, Nat.reduceEqDiff, Nat.reduceBEq, Int.reduceToNat, Int.reduceLT, Int.reduceLE, Int.reduceEq, Nat.reduceLeDiff, Nat.reduceLT, Nat.reduceMul, Nat.reduceAdd, String.reduceEq, k1]
  refine hQ .normal _ ?_; clear hQ Q
  refine TS.cond (t := false) (by simp only [go_sem, Nat.reduceEqDiff, Nat.reduceBEq, Int.reduceToNat, Int.reduceLT, Int.reduceLE, Int.reduceEq, Nat.reduceLeDiff, Nat.reduceLT, Nat.reduceMul, Nat.reduceAdd, String.reduceEq, k1]) ?_
  refine TS.seq (TS.of [] fun Q hQ => ?_)
  by_cases k6 : s.k = 6
  · rw [if_pos k6] at hgo
    simp only [go_sem, Nat.reduceEqDiff, Nat.reduceBEq, Int.reduceToNat, Int.reduceLT, Int.reduceLE, Int.reduceEq, Nat.reduceLeDiff, Nat.reduceLT, Nat.reduceMul, Nat.reduceAdd, String.reduceEq, k6]
    refine hQ .normal _ ?_; clear hQ Q
    refine TS.cond (t := true) (by simp only [go_sem, Nat.reduceEqDiff, Nat.reduceBEq, Int.reduceToNat, Int.reduceLT, Int.reduceLE, Int.reduceEq, Nat.reduceLeDiff, Nat.reduceLT, Nat.reduceMul, Nat.reduceAdd, String.reduceEq, k6]) ?_
    refine TS.seq (TS.of [] fun Q hQ => ?_)
    simp only [go_sem, Nat.reduceEqDiff, Nat.reduceBEq, Int.reduceToNat, Int.reduceLT, Int.reduceLE, Int.reduceEq, Nat.reduceLeDiff, Nat.reduceLT, Nat.reduceMul, Nat.reduceAdd, String.reduceEq, k6]
    refine hQ .normal _ ?_; clear hQ Q
    generalize hca : cargs s.x 2 cs = C at hgo
    have hcle := cargs_le s.x 2 cs
    have hcn := cargs_names s.x 2 cs
    rw [hca] at hcle hcn
    refine TS.seq (TS.seq (TS.of [] fun Q hQ => ?_))
    simp only [go_sem, Nat.reduceEqDiff, Nat.reduceBEq, Int.reduceToNat, Int.reduceLT, Int.reduceLE, Int.reduceEq, Nat.reduceLeDiff, Nat.reduceLT, Nat.reduceMul, Nat.reduceAdd, String.reduceEq, k6]
    refine hQ .normal _ ?_; clear hQ Q
    refine TS.block (TS.loop (α := Nat × Int × CS) (fun x => [(0, .ptr (B.length + 2) 0), (3, .ref [ii 6, ss s.s, slE s.x, ii s.n, slT s.b, slT s.e, ii s.p]), (9, ii x.2.1), (42, slE s.x), (43, ii s.x.length), (44, ii x.1)]) (fun x => ⟨CM B x.2.2 R, rw_⟩) (fun x => x.1 ≤ s.x.length ∧ 0 ≤ x.2.1 ∧ x.2.1 + szs (s.x.drop x.1) ≤ 1 + szs s.x ∧ x.2.1 + (cargs (s.x.drop x.1) 2 x.2.2).1 = 1 + C.1 ∧ (cargs (s.x.drop x.1) 2 x.2.2).2 = C.2) (fun x => s.x.length - x.1) (0, 1, cs) (by simp) ⟨by simp [Has, upd_apply, argsT, k6], rfl, by simp [hca]⟩ ?_)
    rintro ⟨k, n, c1⟩ st hH hm ⟨hk, hn0, hn1, hc1, hc2⟩
    dsimp only at hH hm hk hn0 hn1 hc1 hc2
    simp only [Has, List.mem_cons, List.not_mem_nil, or_false, forall_eq_or_imp, forall_eq] at hH; obtain ⟨i0, i3, i9, i42, i43, i44⟩ := hH
    by_cases hlt : k < s.x.length
    · obtain ⟨x, hx⟩ : ∃ x, s.x[k]? = some x := ⟨_, List.getElem?_eq_getElem hlt⟩
      have hdr : s.x.drop k = x :: s.x.drop (k + 1) := by rw [List.drop_eq_getElem_cons hlt]; congr 1; exact Option.some.inj ((List.getElem?_eq_getElem hlt).symm.trans hx)
      have hat := encEs_at hx
      have hlt5 : k * 5 < (encEs s.x).length := by rw [encEs_length]; omega
      have hw := wrap_succ hlt (by omega)
      have hszx := szE_at hx
      rw [hdr, cargs_cons] at hc1 hc2
      rw [hdr, szs] at hn1
      have hcw : 0 ≤ (cwant x 2 c1).1 ∧ (cwant x 2 c1).1 ≤ szE x := cexpr_le x c1
      have hsub := (cwant_sim x 2 c1 (by omega)).mem B (R ++ [.cells (encE x)]) rw_
      rw [encE_eq] at hsub
      generalize cwant x 2 c1 = X at hc1 hc2 hsub hcw
      have hw2 : IntKind.i64.wrap (n + X.1) = n + X.1 := wrap_small (by omega) (by omega)
      refine TS.of [] fun Q hQ => ?_
      simp only [go_sem, Nat.reduceEqDiff, Nat.reduceBEq, Int.reduceToNat, Int.reduceLT, Int.reduceLE, Int.reduceEq, Nat.reduceLeDiff, Nat.reduceLT, Nat.reduceMul, Nat.reduceAdd, String.reduceEq, i0, i3, i9, i42, i43, i44, hm, hlt, hat, hlt5]
      refine cal_eq hsub ?_
      simp only [go_sem, Nat.reduceEqDiff, Nat.reduceBEq, Int.reduceToNat, Int.reduceLT, Int.reduceLE, Int.reduceEq, Nat.reduceLeDiff, Nat.reduceLT, Nat.reduceMul, Nat.reduceAdd, String.reduceEq, i0, i3, i9, i42, i43, i44, hw, hw2]
      refine hQ .normal _ ?_; clear hQ Q
      refine ⟨_, _, (k + 1, n + X.1, X.2), DropW.ckX B c1 X.2 R rw_ _, ?_, ⟨hlt, by dsimp only; omega, by dsimp only; omega, by dsimp only at hc1 ⊢; omega, hc2⟩, by dsimp only; omega⟩
      simp [upd_apply, i0, i3, i42, i43, IV.np, np_sh, npEs, npTs, npL] <;> omega
    · refine TS.of [] fun Q hQ => ?_
      simp only [go_sem, Nat.reduceEqDiff, Nat.reduceBEq, Int.reduceToNat, Int.reduceLT, Int.reduceLE, Int.reduceEq, Nat.reduceLeDiff, Nat.reduceLT, Nat.reduceMul, Nat.reduceAdd, String.reduceEq, i0, i3, i9, i42, i43, i44, hm, hlt]
      refine hQ (.exit 3) _ ?_; clear hQ Q
      have : s.x.drop k = [] := List.drop_eq_nil_of_le (by omega)
      rw [this] at hc1 hc2
      simp only [cargs] at hc1 hc2
      have hne : n = 1 + C.1 := by omega
      rw [← hc2, ← hne] at hgo
      have hok1 : c1.ok := by rw [hc2]; exact hok.names hcn
      have hs1 := (ih (szt s.b) (by omega) s.b [] c1 (Nat.le_refl _) hok1 hf3 (by simp)).mem B R rw_
      have hl1 := cloop_le s.b [] 0 c1 hf3 (by omega)
      have hok2 := cloop_ok s.b [] 0 c1 hok1 hf3
      generalize cloop s.b [] 0 c1 = X at hgo hs1 hl1 hok2
      have hs2 := (ih (szt s.e) (by omega) s.e [] X.2 (Nat.le_refl _) hok2 hf4 (by simp)).mem B R rw_
      have hl2 := cloop_le s.e [] 0 X.2 hf4 (by omega)
      generalize cloop s.e [] 0 X.2 = Y at hgo hs2 hl2
      have hw3 : IntKind.i64.wrap (n + (if X.1 < Y.1 then Y.1 else X.1)) = n + (if X.1 < Y.1 then Y.1 else X.1) := wrap_small (by split <;> omega) (by split <;> omega)
      refine TS.of [] fun Q hQ => ?_
      simp only [go_sem, Nat.reduceEqDiff, Nat.reduceBEq, Int.reduceToNat, Int.reduceLT, Int.reduceLE, Int.reduceEq, Nat.reduceLeDiff, Nat.reduceLT, Nat.reduceMul, Nat.reduceAdd, String.reduceEq, i0, i3, i9, i42, i43, i44]
      refine drn_of ⟨[57, 61], [], []⟩ [0, 0, 0, 4, 14, 0, 0, 64, 254, 510, 1023, 2047] (by kernel_rfl) ?_
      simp only [go_sem, Nat.reduceEqDiff, Nat.reduceBEq, Int.reduceToNat, Int.reduceLT, Int.reduceLE, Int.reduceEq, Nat.reduceLeDiff, Nat.reduceLT, Nat.reduceMul, Nat.reduceAdd, String.reduceEq, i0, i3, i9, i42, i43, i44]
      refine cald_eq hs1 ?_
      simp only [go_sem, Nat.reduceEqDiff, Nat.reduceBEq, Int.reduceToNat, Int.reduceLT, Int.reduceLE, Int.reduceEq, Nat.reduceLeDiff, Nat.reduceLT, Nat.reduceMul, Nat.reduceAdd, String.reduceEq, i0, i3, i9, i42, i43, i44]
      refine cald_eq hs2 ?_
      simp only [go_sem, Nat.reduceEqDiff, Nat.reduceBEq, Int.reduceToNat, Int.reduceLT, Int.reduceLE, Int.reduceEq, Nat.reduceLeDiff, Nat.reduceLT, Nat.reduceMul, Nat.reduceAdd, String.reduceEq, i0, i3, i9, i42, i43, i44, hw3]
      refine hQ .ret _ ?_; exact post_ret _ _ (ii (n + (if X.1 < Y.1 then Y.1 else X.1))) (by simp only [go_sem, Nat.reduceEqDiff, Nat.reduceBEq, Int.reduceToNat, Int.reduceLT, Int.reduceLE, Int.reduceEq, Nat.reduceLeDiff, Nat.reduceLT, Nat.reduceMul, Nat.reduceAdd, String.reduceEq]) rfl (DropW.ck0 B cs (Y.2) R rw_) ⟨by rw [hgo], by rw [hgo]⟩
  rw [if_neg k6] at hgo
  simp only [go_sem, Nat.reduceEqDiff, Nat.reduceBEq, Int.reduceToNat, Int.reduceLT, Int.reduceLE, Int.reduceEq, Nat.reduceLeDiff, Nat.reduceLT, Nat.reduceMul, Nat.reduceAdd, String.reduceEq, k6]
  refine hQ .normal _ ?_; clear hQ Q
  refine TS.cond (t := false) (by simp only [go_sem, Nat.reduceEqDiff, Nat.reduceBEq, Int.reduceToNat, Int.reduceLT, Int.reduceLE, Int.reduceEq, Nat.reduceLeDiff, Nat.reduceLT, Nat.reduceMul, Nat.reduceAdd, String.reduceEq, k6]) ?_
  by_cases k78 : s.k = 7 ∨ s.k = 8
  · rw [if_pos k78] at hgo
    have hk1 : ¬ (8 : Int) = 7 := by decide
    have hd := declare_sim cs hok (by have := hok.ul; omega) s.s 1 s.p B R rw_
    have hok1 := hok.declare s.s (kind := 1) (fun _ => by decide) s.p
    generalize cs.declare s.s 1 s.p = D at hgo hd hok1
    by_cases hn : 64 < s.n
    · rw [if_pos hn] at hgo
      rcases k78 with k7 | k7
      · refine TS.of [] fun Q hQ => ?_
        simp only [go_sem, Nat.reduceEqDiff, Nat.reduceBEq, Int.reduceToNat, Int.reduceLT, Int.reduceLE, Int.reduceEq, Nat.reduceLeDiff, Nat.reduceLT, Nat.reduceMul, Nat.reduceAdd, String.reduceEq, k7]
        refine cal_eq hd ?_
        simp only [go_sem, Nat.reduceEqDiff, Nat.reduceBEq, Int.reduceToNat, Int.reduceLT, Int.reduceLE, Int.reduceEq, Nat.reduceLeDiff, Nat.reduceLT, Nat.reduceMul, Nat.reduceAdd, String.reduceEq, hn]
        refine cal_eq (fail_sim D 11 s.p B R rw_) ?_
        simp only [go_sem, Nat.reduceEqDiff, Nat.reduceBEq, Int.reduceToNat, Int.reduceLT, Int.reduceLE, Int.reduceEq, Nat.reduceLeDiff, Nat.reduceLT, Nat.reduceMul, Nat.reduceAdd, String.reduceEq]
        refine hQ .ret _ ?_; exact post_ret _ _ (ii 1) (by simp only [go_sem, Nat.reduceEqDiff, Nat.reduceBEq, Int.reduceToNat, Int.reduceLT, Int.reduceLE, Int.reduceEq, Nat.reduceLeDiff, Nat.reduceLT, Nat.reduceMul, Nat.reduceAdd, String.reduceEq]) rfl (DropW.ck0 B cs (D.fail 11 s.p) R rw_) ⟨by rw [hgo], by rw [hgo]⟩
      · refine TS.of [] fun Q hQ => ?_
        simp only [go_sem, Nat.reduceEqDiff, Nat.reduceBEq, Int.reduceToNat, Int.reduceLT, Int.reduceLE, Int.reduceEq, Nat.reduceLeDiff, Nat.reduceLT, Nat.reduceMul, Nat.reduceAdd, String.reduceEq, k7, hk1]
        refine cal_eq hd ?_
        simp only [go_sem, Nat.reduceEqDiff, Nat.reduceBEq, Int.reduceToNat, Int.reduceLT, Int.reduceLE, Int.reduceEq, Nat.reduceLeDiff, Nat.reduceLT, Nat.reduceMul, Nat.reduceAdd, String.reduceEq, hn]
        refine cal_eq (fail_sim D 11 s.p B R rw_) ?_
        simp only [go_sem, Nat.reduceEqDiff, Nat.reduceBEq, Int.reduceToNat, Int.reduceLT, Int.reduceLE, Int.reduceEq, Nat.reduceLeDiff, Nat.reduceLT, Nat.reduceMul, Nat.reduceAdd, String.reduceEq]
        refine hQ .ret _ ?_; exact post_ret _ _ (ii 1) (by simp only [go_sem, Nat.reduceEqDiff, Nat.reduceBEq, Int.reduceToNat, Int.reduceLT, Int.reduceLE, Int.reduceEq, Nat.reduceLeDiff, Nat.reduceLT, Nat.reduceMul, Nat.reduceAdd, String.reduceEq]) rfl (DropW.ck0 B cs (D.fail 11 s.p) R rw_) ⟨by rw [hgo], by rw [hgo]⟩
    · rw [if_neg hn] at hgo
      have hs1 := (ih (szt s.b) (by omega) s.b [s.s] D (Nat.le_refl _) hok1 hf3 (by simp)).mem B R rw_
      have hl1 := cloop_le s.b [s.s] 0 D hf3 (by omega)
      generalize cloop s.b [s.s] 0 D = X at hgo hs1 hl1
      have w1 : IntKind.i64.wrap (1 + X.1) = 1 + X.1 := wrap_small (by omega) (by omega)
      have hm : (if 2049 < 1 + X.1 then 2049 else 1 + X.1) ≤ 2049 ∧ 0 ≤ (if 2049 < 1 + X.1 then 2049 else 1 + X.1) := by split <;> omega
      have h5 : s.n * (if 2049 < 1 + X.1 then 2049 else 1 + X.1) ≤ 64 * 2049 := Int.mul_le_mul (by omega) hm.1 hm.2 (by omega)
      have h6 : 0 ≤ s.n * (if 2049 < 1 + X.1 then 2049 else 1 + X.1) := Int.mul_nonneg hf1 hm.2
      have w2 : IntKind.i64.wrap (s.n * (if 2049 < 1 + X.1 then 2049 else 1 + X.1)) = s.n * (if 2049 < 1 + X.1 then 2049 else 1 + X.1) := wrap_small (by omega) (by omega)
      have w3 : IntKind.i64.wrap (1 + s.n * (if 2049 < 1 + X.1 then 2049 else 1 + X.1)) = 1 + s.n * (if 2049 < 1 + X.1 then 2049 else 1 + X.1) := wrap_small (by omega) (by omega)
      rcases k78 with k7 | k7
      · refine TS.of [] fun Q hQ => ?_
        simp only [go_sem, Nat.reduceEqDiff, Nat.reduceBEq, Int.reduceToNat, Int.reduceLT, Int.reduceLE, Int.reduceEq, Nat.reduceLeDiff, Nat.reduceLT, Nat.reduceMul, Nat.reduceAdd, String.reduceEq, k7]
        refine cal_eq hd ?_
        simp only [go_sem, Nat.reduceEqDiff, Nat.reduceBEq, Int.reduceToNat, Int.reduceLT, Int.reduceLE, Int.reduceEq, Nat.reduceLeDiff, Nat.reduceLT, Nat.reduceMul, Nat.reduceAdd, String.reduceEq, hn]
        refine drn_of ⟨[82, 85, 87], [], []⟩ [0, 1, 0, 0, 8, 0, 32, 96, 252, 508, 1020, 2047, 4095, 8191] (by kernel_rfl) ?_
        simp only [go_sem, Nat.reduceEqDiff, Nat.reduceBEq, Int.reduceToNat, Int.reduceLT, Int.reduceLE, Int.reduceEq, Nat.reduceLeDiff, Nat.reduceLT, Nat.reduceMul, Nat.reduceAdd, String.reduceEq]
        refine cald_eq hs1 ?_
        simp only [go_sem, Nat.reduceEqDiff, Nat.reduceBEq, Int.reduceToNat, Int.reduceLT, Int.reduceLE, Int.reduceEq, Nat.reduceLeDiff, Nat.reduceLT, Nat.reduceMul, Nat.reduceAdd, String.reduceEq, w1, w2, w3]
        refine hQ .ret _ ?_; exact post_ret _ _ (ii (1 + s.n * (if 2049 < 1 + X.1 then 2049 else 1 + X.1))) (by simp only [go_sem, Nat.reduceEqDiff, Nat.reduceBEq, Int.reduceToNat, Int.reduceLT, Int.reduceLE, Int.reduceEq, Nat.reduceLeDiff, Nat.reduceLT, Nat.reduceMul, Nat.reduceAdd, String.reduceEq]) rfl (DropW.ck0 B cs (X.2) R rw_) ⟨by rw [hgo], by rw [hgo]⟩
      · refine TS.of [] fun Q hQ => ?_
        simp only [go_sem, Nat.reduceEqDiff, Nat.reduceBEq, Int.reduceToNat, Int.reduceLT, Int.reduceLE, Int.reduceEq, Nat.reduceLeDiff, Nat.reduceLT, Nat.reduceMul, Nat.reduceAdd, String.reduceEq, k7, hk1]
        refine cal_eq hd ?_
        simp only [go_sem, Nat.reduceEqDiff, Nat.reduceBEq, Int.reduceToNat, Int.reduceLT, Int.reduceLE, Int.reduceEq, Nat.reduceLeDiff, Nat.reduceLT, Nat.reduceMul, Nat.reduceAdd, String.reduceEq, hn]
        refine drn_of ⟨[82, 85, 87], [], []⟩ [0, 1, 0, 0, 8, 0, 32, 96, 252, 508, 1020, 2047, 4095, 8191] (by kernel_rfl) ?_
        simp only [go_sem, Nat.reduceEqDiff, Nat.reduceBEq, Int.reduceToNat, Int.reduceLT, Int.reduceLE, Int.reduceEq, Nat.reduceLeDiff, Nat.reduceLT, Nat.reduceMul, Nat.reduceAdd, String.reduceEq]
        refine cald_eq hs1 ?_
        simp only [go_sem, Nat.reduceEqDiff, Nat.reduceBEq, Int.reduceToNat, Int.reduceLT, Int.reduceLE, Int.reduceEq, Nat.reduceLeDiff, Nat.reduceLT, Nat.reduceMul, Nat.reduceAdd, String.reduceEq, w1, w2, w3]
        refine hQ .ret _ ?_; exact post_ret _ _ (ii (1 + s.n * (if 2049 < 1 + X.1 then 2049 else 1 + X.1))) (by simp only [go_sem, Nat.reduceEqDiff, Nat.reduceBEq, Int.reduceToNat, Int.reduceLT, Int.reduceLE, Int.reduceEq, Nat.reduceLeDiff, Nat.reduceLT, Nat.reduceMul, Nat.reduceAdd, String.reduceEq]) rfl (DropW.ck0 B cs (X.2) R rw_) ⟨by rw [hgo], by rw [hgo]⟩
  · rw [if_neg k78] at hgo
    have k7 : ¬ s.k = 7 := fun h => k78 (.inl h)
    have k8 : ¬ s.k = 8 := fun h => k78 (.inr h)
    have hc := changes_sim cs s.k B R rw_
    generalize cs.changes s.k = D at hgo hc
    have hs1 := numbers_sim s D (by omega) B R rw_
    have hl1 := cargs_le s.x 1 D
    rw [encT_eq] at hs1
    generalize cargs s.x 1 D = X at hgo hs1 hl1
    have w1 : IntKind.i64.wrap (1 + X.1) = 1 + X.1 := wrap_small (by omega) (by omega)
    refine TS.of [] fun Q hQ => ?_
    simp only [go_sem, Nat.reduceEqDiff, Nat.reduceBEq, Int.reduceToNat, Int.reduceLT, Int.reduceLE, Int.reduceEq, Nat.reduceLeDiff, Nat.reduceLT, Nat.reduceMul, Nat.reduceAdd, String.reduceEq, k7, k8]
    refine hQ .normal _ ?_; clear hQ Q
    refine TS.of [] fun Q hQ => ?_
    simp only [go_sem, Nat.reduceEqDiff, Nat.reduceBEq, Int.reduceToNat, Int.reduceLT, Int.reduceLE, Int.reduceEq, Nat.reduceLeDiff, Nat.reduceLT, Nat.reduceMul, Nat.reduceAdd, String.reduceEq]
    refine cal_eq hc ?_
    simp only [go_sem, Nat.reduceEqDiff, Nat.reduceBEq, Int.reduceToNat, Int.reduceLT, Int.reduceLE, Int.reduceEq, Nat.reduceLeDiff, Nat.reduceLT, Nat.reduceMul, Nat.reduceAdd, String.reduceEq]
    refine cal_eq hs1 ?_
    simp only [go_sem, Nat.reduceEqDiff, Nat.reduceBEq, Int.reduceToNat, Int.reduceLT, Int.reduceLE, Int.reduceEq, Nat.reduceLeDiff, Nat.reduceLT, Nat.reduceMul, Nat.reduceAdd, String.reduceEq, w1]
    refine hQ .ret _ ?_; exact post_ret _ _ (ii (1 + X.1)) (by simp only [go_sem, Nat.reduceEqDiff, Nat.reduceBEq, Int.reduceToNat, Int.reduceLT, Int.reduceLE, Int.reduceEq, Nat.reduceLeDiff, Nat.reduceLT, Nat.reduceMul, Nat.reduceAdd, String.reduceEq]) rfl (DropW.ck0 B cs (X.2) R rw_) ⟨by rw [hgo], by rw [hgo]⟩
theorem check_block : ∀ N, N < 800000 → TC N ∧ BC N := by
  intro N
  induction N using Nat.strongRecOn with
  | ind N ih =>
    intro hN
    have hT : TC N := stmt_cstep hN (fun M h => (ih M h (by omega)).2)
    exact ⟨hT, block_cstep hN hT⟩
theorem cloop_sim (l : List Stmt) (cs : CS) (h : szt l < 800000) (hok : cs.ok) (hf : fineTs l) : SimC 59 [slT l, .sl .full 0 []] cs (ii (cloop l [] 0 cs).1) (cloop l [] 0 cs).2 := (check_block _ h).2 l [] cs (Nat.le_refl _) hok hf (by simp)
end Go.Proofs.Ytphjldhdnmoolaa.A
/- The walks of some functions over the abstract machine. -/
namespace Go.Proofs.Ytphjldhdnmoolaa.A
open Go
theorem add11 (n : Nat) : n + 1 + 1 = n + 2 := rfl
abbrev CM1 (o : List IObj) (r : IObj) (cs : CS) (R : List IObj) : List IObj := o ++ (r :: .map (encM cs.kn) cs.kc :: .map (encM cs.us) cs.uc :: .cells (cellsC (o.length + 1) cs) :: R)
theorem CM1_eq (o : List IObj) (r : IObj) (cs : CS) (R : List IObj) : CM (o ++ [r]) cs R = CM1 o r cs R := by simp [CM, CM1]
theorem SimC.at_ {f : FuncId} {args : List IV} {cs cs' : CS} {r : IV} (h : SimC f args cs r cs') (o : List IObj) (r0 : IObj) (R : List IObj) (rw_ : List Nat) : Sim f (.ptr (o.length + 3) 0 :: args) ⟨CM1 o r0 cs R, rw_⟩ (fun x m' => x = r ∧ m' = ⟨CM1 o r0 cs' R, rw_⟩) := by
  have := h (o ++ [r0]) R rw_
  rw [CM1_eq, CM1_eq] at this
  simpa using this
theorem DropW.ck1 (o : List IObj) (r0 : IObj) (cs cs' : CS) (X : List IObj) (rw_ : List Nat) : DropW ⟨CM1 o r0 cs [], rw_⟩ (o.length + 4) rw_.length ⟨CM1 o r0 cs' X, rw_⟩ ⟨CM1 o r0 cs' [], rw_⟩ := by
  have := DropW.ckX (o ++ [r0]) cs cs' [] rw_ X
  simp only [CM1_eq, List.nil_append, List.length_append, List.length_cons, List.length_nil] at this
  have e : o.length + (0 + 1) + (0 + 3) = o.length + 4 := by omega
  rw [e] at this
  exact this
def decl : List Bytes → CS → CS
  | [], cs => cs
  | p :: l, cs => decl l (cs.declare p 1 0)
def relet : List Stmt → CS → CS
  | [], cs => cs
  | s :: l, cs => relet l (if s.k = 1 ∧ cs.ft = none then { cs with kn := (putM s.s ((getM s.s cs.us).getD 0) cs.kn cs.kc).1, kc := (putM s.s ((getM s.s cs.us).getD 0) cs.kn cs.kc).2 } else cs)
abbrev cs0 : CS := ⟨[], 0, [], 0, none, false, 1, true⟩
def chkA (d : Def) : CS := decl d.params (if 8 < d.params.length then cs0.fail 15 0 else cs0)
def chkN (d : Def) : Int × CS := cargs d.needs 2 (chkA d)
def chkB (d : Def) : Int × CS := cloop d.body [] 0 { (chkN d).2 with rd := false }
def chkT (cs : CS) : CS := if cs.rd then { cs with tn := false } else cs
def chkG (d : Def) : Int × CS := cargs d.give 1 (relet d.body (chkT (chkB d).2))
def chkM (rd : Bool) (cs : CS) : CS := if (cs.rd || rd) && decide (cs.md = 2) then { cs with rd := cs.rd || rd, md := 3 } else { cs with rd := cs.rd || rd }
def chkSteps (d : Def) : Int := (chkN d).1 + (chkG d).1 + (chkB d).1
def chkF (d : Def) : CS := if 2048 < chkSteps d then (chkM (chkN d).2.rd (chkG d).2).fail 11 0 else chkM (chkN d).2.rd (chkG d).2
structure Info where
  mode : Int
  steps : Int
  names : Int
  turns : Bool
abbrev Info0 : Info := ⟨0, 0, 0, false⟩
abbrev encI (i : Info) : List IV := [ii i.mode, ii i.steps, ii i.names, bb i.turns]
def check (d : Def) : Info × Option (Int × Int) := match (chkF d).ft with
  | some p => (Info0, some p)
  | none => (⟨(chkF d).md, chkSteps d, (chkF d).us.length, (chkF d).tn⟩, none)
def errI : Option (Int × Int) → IV
  | none => .v .nilIface
  | some p => .iface 109 (.ref [ii p.1, ii p.2])
theorem errI_none : errI none = .v .nilIface := rfl
theorem errI_some {p : Int × Int} : errI (some p) = .iface 109 (.ref [ii p.1, ii p.2]) := rfl
theorem cs0_ok : cs0.ok := ⟨by simp, by simp, by simp, by simp, by simp, by simp⟩
theorem decl_ok : ∀ (l : List Bytes) (cs : CS), cs.ok → (decl l cs).ok
  | [], cs, h => h
  | p :: l, cs, h => by rw [decl]; exact decl_ok l _ (h.declare p (fun _ => by decide) 0)
theorem getM_repl {s : Bytes} {v : Int} {t : Bytes} : ∀ {l : List Ent}, getM t (repl s v l) = none ↔ getM t l = none
  | [] => Iff.rfl
  | e :: l => by
    unfold repl
    split
    · rename_i h; subst h; unfold getM; simp only; split <;> simp
    · unfold getM; split
      · simp
      · exact getM_repl
structure DefOK (d : Def) : Prop where
  size : szs d.needs + szt d.body + szs d.give < 800000
  params : d.params.length < 800000
  fine : fineTs d.body
theorem rd_ok {cs : CS} (h : cs.ok) (b : Bool) : CS.ok { cs with rd := b } := ⟨h.kb, h.ub, h.pos, h.sub, h.kpos, h.ul⟩
theorem chkA_ok (d : Def) : (chkA d).ok := by
  unfold chkA; refine decl_ok _ _ ?_; split
  · exact cs0_ok.names (names.fail _ _ _)
  · exact cs0_ok
theorem chkN_ok (d : Def) : (chkN d).2.ok := (chkA_ok d).names (cargs_names _ _ _)
theorem chkB_ok (d : Def) (h : fineTs d.body) : (chkB d).2.ok := cloop_ok _ _ _ _ (rd_ok (chkN_ok d) false) h
set_option maxRecDepth 100000 in
set_option maxHeartbeats 4000000 in
theorem check_sim (m : Mem) (d : Def) (hd : DefOK d) : Sim 28 [.agg (encD d)] m (fun r m' => r = .tup [.agg (encI (check d).1), errI (check d).2] ∧ m' = m) := by
  obtain ⟨hds, hdp, hdf⟩ := hd
  have hl1 := szs_len d.needs
  have hl2 := szt_len d.body
  have hl3 := szs_len d.give
  refine Sim.ofS 176 [.cell 2 31, .tmp 3] Try.func28 rfl rfl rfl (by simp) fun wr => ?_
  simp only [go_sem, Nat.reduceEqDiff, Nat.reduceBEq, Int.reduceToNat, Int.reduceLT, Int.reduceLE, Int.reduceEq, Nat.reduceLeDiff, Nat.reduceLT, Nat.reduceMul, Nat.reduceAdd, String.reduceEq]
  generalize hr0 : (IObj.cells [ii 0, ii 0, ii 0, bb false]) = r0
  refine TS.seq (TS.of [1] fun Q hQ => ?_)
  simp only [go_sem, Nat.reduceEqDiff, Nat.reduceBEq, Int.reduceToNat, Int.reduceLT, Int.reduceLE, Int.reduceEq, Nat.reduceLeDiff, Nat.reduceLT, Nat.reduceMul, Nat.reduceAdd, String.reduceEq, encD]
  refine hQ .normal _ ?_; clear hQ Q
  refine TS.seq (TS.of [] fun Q hQ => ?_)
  simp only [go_sem, Nat.reduceEqDiff, Nat.reduceBEq, Int.reduceToNat, Int.reduceLT, Int.reduceLE, Int.reduceEq, Nat.reduceLeDiff, Nat.reduceLT, Nat.reduceMul, Nat.reduceAdd, String.reduceEq, encD]
  refine hQ .normal _ ?_; clear hQ Q
  rw [show (IObj.cells [IV.v (Value.int IntKind.i64 0), IV.v (Value.int IntKind.i64 0), IV.v (Value.int IntKind.i64 0), IV.v (Value.bool false)]) = r0 from hr0]
  have hcA : chkA d = decl d.params (if 8 < d.params.length then cs0.fail 15 0 else cs0) := rfl
  generalize hc1 : (if 8 < d.params.length then cs0.fail 15 0 else cs0) = c1 at hcA
  refine TS.seq (TS.mono (Q := fun e s => e = .normal ∧ (s.t 1 = .ref (encD d) ∧ s.t 2 = .ptr m.objs.length 0 ∧ s.t 3 = .v .nilIface ∧ s.t 4 = .ptr (m.objs.length + 3) 0) ∧ s.m = ⟨CM1 m.objs r0 c1 [], m.rows⟩) ?_ ?_)
  · refine TS.of [] fun Q hQ => ?_
    by_cases h8 : 8 < d.params.length
    · have h8' : (8 : Int) < (d.params.length : Int) := by omega
      rw [if_pos h8] at hc1
      simp only [go_sem, Nat.reduceEqDiff, Nat.reduceBEq, Int.reduceToNat, Int.reduceLT, Int.reduceLE, Int.reduceEq, Nat.reduceLeDiff, Nat.reduceLT, Nat.reduceMul, Nat.reduceAdd, String.reduceEq, h8']
      refine cal_eq ((fail_sim cs0 15 0).at_ m.objs r0 [] m.rows) ?_
      simp only [go_sem, Nat.reduceEqDiff, Nat.reduceBEq, Int.reduceToNat, Int.reduceLT, Int.reduceLE, Int.reduceEq, Nat.reduceLeDiff, Nat.reduceLT, Nat.reduceMul, Nat.reduceAdd, String.reduceEq]
      refine hQ .normal _ ?_; clear hQ Q
      exact ⟨rfl, by simp [upd_apply], by rw [← hc1]⟩
    · have h8' : ¬ (8 : Int) < (d.params.length : Int) := by omega
      rw [if_neg h8] at hc1
      simp only [go_sem, Nat.reduceEqDiff, Nat.reduceBEq, Int.reduceToNat, Int.reduceLT, Int.reduceLE, Int.reduceEq, Nat.reduceLeDiff, Nat.reduceLT, Nat.reduceMul, Nat.reduceAdd, String.reduceEq, h8']
      refine hQ .normal _ ?_; clear hQ Q
      exact ⟨rfl, by simp [upd_apply], by rw [← hc1]; rfl⟩
  rintro e s1 ⟨rfl, ⟨i1, i2, i3, i4⟩, hm1⟩
  have hokc1 : c1.ok := by rw [← hc1]; split; exact cs0_ok.names (names.fail _ _ _); exact cs0_ok
  -- the parameters
  refine TS.seq (TS.mono (Q := fun e s => e = .normal ∧ (s.t 1 = .ref (encD d) ∧ s.t 2 = .ptr m.objs.length 0 ∧ s.t 3 = .v .nilIface ∧ s.t 4 = .ptr (m.objs.length + 3) 0) ∧ s.m = ⟨CM1 m.objs r0 (chkA d) [], m.rows⟩) ?_ ?_)
  · refine TS.seq (TS.of [] fun Q hQ => ?_)
    simp only [go_sem, Nat.reduceEqDiff, Nat.reduceBEq, Int.reduceToNat, Int.reduceLT, Int.reduceLE, Int.reduceEq, Nat.reduceLeDiff, Nat.reduceLT, Nat.reduceMul, Nat.reduceAdd, String.reduceEq, i1, i2, i3, i4, hm1]
    refine hQ .normal _ ?_; clear hQ Q
    refine TS.block (TS.loop (α := Nat × CS) (fun x => [(1, .ref (encD d)), (2, .ptr m.objs.length 0), (3, .v .nilIface), (4, .ptr (m.objs.length + 3) 0), (28, slS d.params), (29, ii d.params.length), (30, ii x.1)]) (fun x => ⟨CM1 m.objs r0 x.2 [], m.rows⟩) (fun x => x.1 ≤ d.params.length ∧ x.2.ok ∧ decl (d.params.drop x.1) x.2 = chkA d) (fun x => d.params.length - x.1) (0, c1) (by simp) ⟨by simp [Has, upd_apply, i1, i2, i3, i4], rfl, by simp [hokc1, hcA]⟩ ?_)
    rintro ⟨k, c⟩ st hH hm ⟨hk, hok, hc⟩
    dsimp only at hH hm hk hok hc
    simp only [Has, List.mem_cons, List.not_mem_nil, or_false, forall_eq_or_imp, forall_eq] at hH; obtain ⟨j1, j2, j3, j4, j28, j29, j30⟩ := hH
    by_cases hlt : k < d.params.length
    · obtain ⟨x, hx⟩ : ∃ x, d.params[k]? = some x := ⟨_, List.getElem?_eq_getElem hlt⟩
      have hdr : d.params.drop k = x :: d.params.drop (k + 1) := by rw [List.drop_eq_getElem_cons hlt]; congr 1; exact Option.some.inj ((List.getElem?_eq_getElem hlt).symm.trans hx)
      have hat : (d.params.map (fun s => (IV.v (.string s)))).drop k = ss x :: (d.params.drop (k + 1)).map (fun s => (IV.v (.string s))) := by rw [← List.map_drop, hdr]; rfl
      have hlt1 : k < (d.params.map (fun s => (IV.v (.string s)))).length := by simpa using hlt
      have hw := wrap_succ hlt (by omega)
      rw [hdr, decl] at hc
      refine TS.of [] fun Q hQ => ?_
      simp only [go_sem, Nat.reduceEqDiff, Nat.reduceBEq, Int.reduceToNat, Int.reduceLT, Int.reduceLE, Int.reduceEq, Nat.reduceLeDiff, Nat.reduceLT, Nat.reduceMul, Nat.reduceAdd, String.reduceEq, j1, j2, j3, j4, j28, j29, j30, hm, hlt, hat, hlt1]
      refine cal_eq ((declare_sim c hok (by have := hok.ul; omega) x 1 0).at_ m.objs r0 [] m.rows) ?_
      simp only [go_sem, Nat.reduceEqDiff, Nat.reduceBEq, Int.reduceToNat, Int.reduceLT, Int.reduceLE, Int.reduceEq, Nat.reduceLeDiff, Nat.reduceLT, Nat.reduceMul, Nat.reduceAdd, String.reduceEq, j1, j2, j3, j4, j28, j29, j30, hw]
      refine hQ .normal _ ?_; clear hQ Q
      refine ⟨_, _, (k + 1, c.declare x 1 0), DropW.ck1 m.objs r0 c _ [] m.rows, ?_, ⟨hlt, hok.declare x (fun _ => by decide) 0, hc⟩, by dsimp only; omega⟩
      simp [upd_apply, j1, j2, j3, j4, j28, j29, IV.np, np_sh, npS, npEs, npTs, npL] <;> omega
    · have : d.params.drop k = [] := List.drop_eq_nil_of_le (by omega)
      rw [this, decl] at hc
      refine TS.of [] fun Q hQ => ?_
      simp only [go_sem, Nat.reduceEqDiff, Nat.reduceBEq, Int.reduceToNat, Int.reduceLT, Int.reduceLE, Int.reduceEq, Nat.reduceLeDiff, Nat.reduceLT, Nat.reduceMul, Nat.reduceAdd, String.reduceEq, j1, j2, j3, j4, j28, j29, j30, hm, hlt]
      refine hQ (.exit 0) _ ?_; clear hQ Q
      exact ⟨rfl, by simp [upd_apply, j1, j2, j3, j4], by rw [← hc]⟩
  clear i1 i2 i3 i4 hm1
  rintro e s2 ⟨rfl, ⟨i1, i2, i3, i4⟩, hm2⟩
  refine TS.seq (TS.of [] fun Q hQ => ?_)
  simp only [go_sem, Nat.reduceEqDiff, Nat.reduceBEq, Int.reduceToNat, Int.reduceLT, Int.reduceLE, Int.reduceEq, Nat.reduceLeDiff, Nat.reduceLT, Nat.reduceMul, Nat.reduceAdd, String.reduceEq, i1, i2, i3, i4, hm2]
  refine hQ .normal _ ?_; clear hQ Q
  -- the needs
  have hokA := chkA_ok d
  have hNle := cargs_le d.needs 2 (chkA d)
  have hN : chkN d = cargs d.needs 2 (chkA d) := rfl
  rw [← hN] at hNle
  refine TS.seq (TS.mono (Q := fun e s => e = .normal ∧ (s.t 1 = .ref (encD d) ∧ s.t 2 = .ptr m.objs.length 0 ∧ s.t 3 = .v .nilIface ∧ s.t 4 = .ptr (m.objs.length + 3) 0 ∧ s.t 7 = ii (chkN d).1) ∧ s.m = ⟨CM1 m.objs r0 (chkN d).2 [], m.rows⟩) ?_ ?_)
  · refine TS.seq (TS.of [] fun Q hQ => ?_)
    simp only [go_sem, Nat.reduceEqDiff, Nat.reduceBEq, Int.reduceToNat, Int.reduceLT, Int.reduceLE, Int.reduceEq, Nat.reduceLeDiff, Nat.reduceLT, Nat.reduceMul, Nat.reduceAdd, String.reduceEq, i1, i2, i3, i4, hm2]
    refine hQ .normal _ ?_; clear hQ Q
    refine TS.block (TS.loop (α := Nat × Int × CS) (fun x => [(1, .ref (encD d)), (2, .ptr m.objs.length 0), (3, .v .nilIface), (4, .ptr (m.objs.length + 3) 0), (7, ii x.2.1), (39, slE d.needs), (40, ii d.needs.length), (41, ii x.1)]) (fun x => ⟨CM1 m.objs r0 x.2.2 [], m.rows⟩) (fun x => x.1 ≤ d.needs.length ∧ 0 ≤ x.2.1 ∧ x.2.1 + szs (d.needs.drop x.1) ≤ szs d.needs ∧ x.2.1 + (cargs (d.needs.drop x.1) 2 x.2.2).1 = (chkN d).1 ∧ (cargs (d.needs.drop x.1) 2 x.2.2).2 = (chkN d).2) (fun x => d.needs.length - x.1) (0, 0, chkA d) (by simp) ⟨by simp [Has, upd_apply, i1, i2, i3, i4], rfl, by simp [hN]⟩ ?_)
    rintro ⟨k, n, c⟩ st hH hm ⟨hk, hn0, hn1, hc1', hc2'⟩
    dsimp only at hH hm hk hn0 hn1 hc1' hc2'
    simp only [Has, List.mem_cons, List.not_mem_nil, or_false, forall_eq_or_imp, forall_eq] at hH; obtain ⟨j1, j2, j3, j4, j7, j39, j40, j41⟩ := hH
    by_cases hlt : k < d.needs.length
    · obtain ⟨x, hx⟩ : ∃ x, d.needs[k]? = some x := ⟨_, List.getElem?_eq_getElem hlt⟩
      have hdr : d.needs.drop k = x :: d.needs.drop (k + 1) := by rw [List.drop_eq_getElem_cons hlt]; congr 1; exact Option.some.inj ((List.getElem?_eq_getElem hlt).symm.trans hx)
      have hat := encEs_at hx
      have hlt5 : k * 5 < (encEs d.needs).length := by rw [encEs_length]; omega
      have hw := wrap_succ hlt (by omega)
      have hszx := szE_at hx
      rw [hdr, cargs_cons] at hc1' hc2'
      rw [hdr, szs] at hn1
      have hcw : 0 ≤ (cwant x 2 c).1 ∧ (cwant x 2 c).1 ≤ szE x := cexpr_le x c
      have hsub := (cwant_sim x 2 c (by omega)).at_ m.objs r0 [.cells (encE x)] m.rows
      rw [encE_eq] at hsub
      generalize cwant x 2 c = X at hc1' hc2' hsub hcw
      have hw2 : IntKind.i64.wrap (n + X.1) = n + X.1 := wrap_small (by omega) (by omega)
      refine TS.of [] fun Q hQ => ?_
      simp only [go_sem, Nat.reduceEqDiff, Nat.reduceBEq, Int.reduceToNat, Int.reduceLT, Int.reduceLE, Int.reduceEq, Nat.reduceLeDiff, Nat.reduceLT, Nat.reduceMul, Nat.reduceAdd, String.reduceEq, j1, j2, j3, j4, j7, j39, j40, j41, hm, hlt, hat, hlt5]
      refine cal_eq hsub ?_
      simp only [go_sem, Nat.reduceEqDiff, Nat.reduceBEq, Int.reduceToNat, Int.reduceLT, Int.reduceLE, Int.reduceEq, Nat.reduceLeDiff, Nat.reduceLT, Nat.reduceMul, Nat.reduceAdd, String.reduceEq, j1, j2, j3, j4, j7, j39, j40, j41, hw, hw2]
      refine hQ .normal _ ?_; clear hQ Q
      refine ⟨_, _, (k + 1, n + X.1, X.2), DropW.ck1 m.objs r0 c X.2 [_] m.rows, ?_, ⟨hlt, by dsimp only; omega, by dsimp only; omega, by dsimp only at hc1' ⊢; omega, hc2'⟩, by dsimp only; omega⟩
      simp [upd_apply, j1, j2, j3, j4, j39, j40, IV.np, np_sh, npS, npEs, npTs, npL] <;> omega
    · have : d.needs.drop k = [] := List.drop_eq_nil_of_le (by omega)
      rw [this] at hc1' hc2'
      simp only [cargs] at hc1' hc2'
      refine TS.of [] fun Q hQ => ?_
      simp only [go_sem, Nat.reduceEqDiff, Nat.reduceBEq, Int.reduceToNat, Int.reduceLT, Int.reduceLE, Int.reduceEq, Nat.reduceLeDiff, Nat.reduceLT, Nat.reduceMul, Nat.reduceAdd, String.reduceEq, j1, j2, j3, j4, j7, j39, j40, j41, hm, hlt]
      refine hQ (.exit 2) _ ?_; clear hQ Q
      exact ⟨rfl, by simp [upd_apply, j1, j2, j3, j4, j7]; omega, by rw [← hc2']⟩
  clear i1 i2 i3 i4 hm2
  rintro e s3 ⟨rfl, ⟨i1, i2, i3, i4, i7⟩, hm3⟩
  refine TS.seq (TS.of [] fun Q hQ => ?_)
  simp only [go_sem, Nat.reduceEqDiff, Nat.reduceBEq, Int.reduceToNat, Int.reduceLT, Int.reduceLE, Int.reduceEq, Nat.reduceLeDiff, Nat.reduceLT, Nat.reduceMul, Nat.reduceAdd, String.reduceEq, i1, i2, i3, i4, i7, hm3]
  refine hQ .normal _ ?_; clear hQ Q
  refine TS.seq (TS.of [] fun Q hQ => ?_)
  simp only [go_sem, Nat.reduceEqDiff, Nat.reduceBEq, Int.reduceToNat, Int.reduceLT, Int.reduceLE, Int.reduceEq, Nat.reduceLeDiff, Nat.reduceLT, Nat.reduceMul, Nat.reduceAdd, String.reduceEq, i1, i2, i3, i4, i7]
  refine hQ .normal _ ?_; clear hQ Q
  have hokN := chkN_ok d
  have hB : chkB d = cloop d.body [] 0 { (chkN d).2 with rd := false } := rfl
  have hBle := cloop_le d.body [] 0 { (chkN d).2 with rd := false } hdf (by omega)
  rw [← hB] at hBle
  have hsB := (cloop_sim d.body { (chkN d).2 with rd := false } (by omega) (rd_ok hokN false) hdf).at_ m.objs r0 [] m.rows
  rw [← hB] at hsB
  refine TS.seq (TS.of [] fun Q hQ => ?_)
  simp only [go_sem, Nat.reduceEqDiff, Nat.reduceBEq, Int.reduceToNat, Int.reduceLT, Int.reduceLE, Int.reduceEq, Nat.reduceLeDiff, Nat.reduceLT, Nat.reduceMul, Nat.reduceAdd, String.reduceEq, i1, i2, i3, i4, i7]
  refine cal_eq hsB ?_
  simp only [go_sem, Nat.reduceEqDiff, Nat.reduceBEq, Int.reduceToNat, Int.reduceLT, Int.reduceLE, Int.reduceEq, Nat.reduceLeDiff, Nat.reduceLT, Nat.reduceMul, Nat.reduceAdd, String.reduceEq, i1, i2, i3, i4, i7]
  refine hQ .normal _ ?_; clear hQ Q
  -- the body's turns
  have hokB := chkB_ok d hdf
  generalize hb5 : (chkB d).2 = c5 at hsB hokB ⊢
  refine TS.seq (TS.mono (Q := fun e s => e = .normal ∧ (s.t 1 = .ref (encD d) ∧ s.t 2 = .ptr m.objs.length 0 ∧ s.t 3 = .v .nilIface ∧ s.t 4 = .ptr (m.objs.length + 3) 0 ∧ s.t 7 = ii (chkN d).1 ∧ s.t 10 = bb (chkN d).2.rd ∧ s.t 11 = ii (chkB d).1) ∧ s.m = ⟨CM1 m.objs r0 (chkT c5) [], m.rows⟩) ?_ ?_)
  · cases hrd : c5.rd with
    | true =>
      have ht : chkT c5 = { c5 with tn := false } := by simp [chkT, hrd]
      refine TS.of [] fun Q hQ => ?_
      simp only [go_sem, Nat.reduceEqDiff, Nat.reduceBEq, Int.reduceToNat, Int.reduceLT, Int.reduceLE, Int.reduceEq, Nat.reduceLeDiff, Nat.reduceLT, Nat.reduceMul, Nat.reduceAdd, String.reduceEq, i1, i2, i3, i4, i7, hrd]
      refine hQ .normal _ ?_; clear hQ Q
      exact ⟨rfl, by simp [upd_apply, i1, i2, i3, i4, i7], by rw [ht] <;> simp [hrd]⟩
    | false =>
      have ht : chkT c5 = c5 := by simp [chkT, hrd]
      refine TS.of [] fun Q hQ => ?_
      simp only [go_sem, Nat.reduceEqDiff, Nat.reduceBEq, Int.reduceToNat, Int.reduceLT, Int.reduceLE, Int.reduceEq, Nat.reduceLeDiff, Nat.reduceLT, Nat.reduceMul, Nat.reduceAdd, String.reduceEq, i1, i2, i3, i4, i7, hrd]
      refine hQ .normal _ ?_; clear hQ Q
      exact ⟨rfl, by simp [upd_apply, i1, i2, i3, i4, i7], by rw [ht] <;> simp [hrd]⟩
  clear i1 i2 i3 i4 i7 hm3
  rintro e s4 ⟨rfl, ⟨i1, i2, i3, i4, i7, i10, i11⟩, hm4⟩
  generalize hc6 : chkT c5 = c6 at hm4
  generalize hc7 : relet d.body c6 = c7
  -- the lets again
  refine TS.seq (TS.mono (Q := fun e s => e = .normal ∧ (s.t 1 = .ref (encD d) ∧ s.t 2 = .ptr m.objs.length 0 ∧ s.t 3 = .v .nilIface ∧ s.t 4 = .ptr (m.objs.length + 3) 0 ∧ s.t 7 = ii (chkN d).1 ∧ s.t 10 = bb (chkN d).2.rd ∧ s.t 11 = ii (chkB d).1) ∧ s.m = ⟨CM1 m.objs r0 c7 [], m.rows⟩) ?_ ?_)
  · refine TS.seq (TS.of [] fun Q hQ => ?_)
    simp only [go_sem, Nat.reduceEqDiff, Nat.reduceBEq, Int.reduceToNat, Int.reduceLT, Int.reduceLE, Int.reduceEq, Nat.reduceLeDiff, Nat.reduceLT, Nat.reduceMul, Nat.reduceAdd, String.reduceEq, i1, i2, i3, i4, i7, i10, i11, hm4]
    refine hQ .normal _ ?_; clear hQ Q
    refine TS.block (TS.loop (α := Nat × CS) (fun x => [(1, .ref (encD d)), (2, .ptr m.objs.length 0), (3, .v .nilIface), (4, .ptr (m.objs.length + 3) 0), (7, ii (chkN d).1), (10, bb (chkN d).2.rd), (11, ii (chkB d).1), (71, slT d.body), (72, ii d.body.length), (73, ii x.1)]) (fun x => ⟨CM1 m.objs r0 x.2 [], m.rows⟩) (fun x => x.1 ≤ d.body.length ∧ relet (d.body.drop x.1) x.2 = c7) (fun x => d.body.length - x.1) (0, c6) (by simp) ⟨by simp [Has, upd_apply, i1, i2, i3, i4, i7, i10, i11], rfl, by simp [hc7]⟩ ?_)
    rintro ⟨k, c⟩ st hH hm ⟨hk, hc⟩
    dsimp only at hH hm hk hc
    simp only [Has, List.mem_cons, List.not_mem_nil, or_false, forall_eq_or_imp, forall_eq] at hH; obtain ⟨j1, j2, j3, j4, j7, j10, j11, j71, j72, j73⟩ := hH
    by_cases hlt : k < d.body.length
    · obtain ⟨x, hx⟩ : ∃ x, d.body[k]? = some x := ⟨_, List.getElem?_eq_getElem hlt⟩
      have hdr : d.body.drop k = x :: d.body.drop (k + 1) := by rw [List.drop_eq_getElem_cons hlt]; congr 1; exact Option.some.inj ((List.getElem?_eq_getElem hlt).symm.trans hx)
      have hat := encTs_at hx
      have hlt7 : k * 7 < (encTs d.body).length := by rw [encTs_length]; omega
      have hw := wrap_succ hlt (by omega)
      rw [hdr, relet] at hc
      by_cases k1 : x.k = 1
      · cases hf : c.ft with
        | none =>
          rw [if_pos ⟨k1, hf⟩] at hc
          refine TS.of [] fun Q hQ => ?_
          simp only [go_sem, Nat.reduceEqDiff, Nat.reduceBEq, Int.reduceToNat, Int.reduceLT, Int.reduceLE, Int.reduceEq, Nat.reduceLeDiff, Nat.reduceLT, Nat.reduceMul, Nat.reduceAdd, String.reduceEq, j1, j2, j3, j4, j7, j10, j11, j71, j72, j73, hm, hlt, hat, hlt7, k1, hf, ftI_none]
          refine drn_of ⟨[], [], []⟩ [0, 1, 3, 7, 0, 16, 0, 64, 192, 448, 0, 1024, 4032, 8191] (by kernel_rfl) ?_
          simp only [go_sem, Nat.reduceEqDiff, Nat.reduceBEq, Int.reduceToNat, Int.reduceLT, Int.reduceLE, Int.reduceEq, Nat.reduceLeDiff, Nat.reduceLT, Nat.reduceMul, Nat.reduceAdd, String.reduceEq, j1, j2, j3, j4, j7, j10, j11, j71, j72, j73, hw, Mem.map_, mlook_enc, mval_enc, mupd_enc, add11]
          refine hQ .normal _ ?_; clear hQ Q
          refine ⟨m.objs.length + 4, m.rows.length, (k + 1, { c with kn := (putM x.s ((getM x.s c.us).getD 0) c.kn c.kc).1, kc := (putM x.s ((getM x.s c.us).getD 0) c.kn c.kc).2 }), ?_, ?_, ⟨hlt, hc⟩, by dsimp only; omega⟩
          · rw [← ftI_none, ← hf]
            exact DropW.ck1 m.objs r0 c { c with kn := (putM x.s ((getM x.s c.us).getD 0) c.kn c.kc).1, kc := (putM x.s ((getM x.s c.us).getD 0) c.kn c.kc).2 } [_] m.rows
          · simp [upd_apply, j1, j2, j3, j4, j7, j10, j11, j71, j72, IV.np, np_sh, npS, npEs, npTs, npL] <;> omega
        | some p =>
          rw [if_neg (by rintro ⟨_, h⟩; rw [hf] at h; cases h)] at hc
          refine TS.of [] fun Q hQ => ?_
          simp only [go_sem, Nat.reduceEqDiff, Nat.reduceBEq, Int.reduceToNat, Int.reduceLT, Int.reduceLE, Int.reduceEq, Nat.reduceLeDiff, Nat.reduceLT, Nat.reduceMul, Nat.reduceAdd, String.reduceEq, j1, j2, j3, j4, j7, j10, j11, j71, j72, j73, hm, hlt, hat, hlt7, k1, hf, ftI_some, hw]
          refine hQ .normal _ ?_; clear hQ Q
          refine ⟨m.objs.length + 4, m.rows.length, (k + 1, c), ?_, ?_, ⟨hlt, hc⟩, by dsimp only; omega⟩
          · rw [← ftI_some, ← hf]
            exact DropW.ck1 m.objs r0 c c [_] m.rows
          · simp [upd_apply, j1, j2, j3, j4, j7, j10, j11, j71, j72, IV.np, np_sh, npS, npEs, npTs, npL] <;> omega
      · rw [if_neg (by rintro ⟨h, _⟩; exact k1 h)] at hc
        refine TS.of [] fun Q hQ => ?_
        simp only [go_sem, Nat.reduceEqDiff, Nat.reduceBEq, Int.reduceToNat, Int.reduceLT, Int.reduceLE, Int.reduceEq, Nat.reduceLeDiff, Nat.reduceLT, Nat.reduceMul, Nat.reduceAdd, String.reduceEq, j1, j2, j3, j4, j7, j10, j11, j71, j72, j73, hm, hlt, hat, hlt7, k1, hw]
        refine hQ .normal _ ?_; clear hQ Q
        refine ⟨m.objs.length + 4, m.rows.length, (k + 1, c), ?_, ?_, ⟨hlt, hc⟩, by dsimp only; omega⟩
        · exact DropW.ck1 m.objs r0 c c [_] m.rows
        · simp [upd_apply, j1, j2, j3, j4, j7, j10, j11, j71, j72, IV.np, np_sh, npS, npEs, npTs, npL] <;> omega
    · have : d.body.drop k = [] := List.drop_eq_nil_of_le (by omega)
      rw [this, relet] at hc
      refine TS.of [] fun Q hQ => ?_
      simp only [go_sem, Nat.reduceEqDiff, Nat.reduceBEq, Int.reduceToNat, Int.reduceLT, Int.reduceLE, Int.reduceEq, Nat.reduceLeDiff, Nat.reduceLT, Nat.reduceMul, Nat.reduceAdd, String.reduceEq, j1, j2, j3, j4, j7, j10, j11, j71, j72, j73, hm, hlt]
      refine hQ (.exit 4) _ ?_; clear hQ Q
      exact ⟨rfl, by simp [upd_apply, j1, j2, j3, j4, j7, j10, j11], by rw [← hc]⟩
  clear i1 i2 i3 i4 i7 i10 i11 hm4
  rintro e s5 ⟨rfl, ⟨i1, i2, i3, i4, i7, i10, i11⟩, hm5⟩
  -- what is given
  have hG : chkG d = cargs d.give 1 c7 := by unfold chkG; rw [hb5, hc6, hc7]
  have hGle := cargs_le d.give 1 c7
  rw [← hG] at hGle
  refine TS.seq (TS.mono (Q := fun e s => e = .normal ∧ (s.t 1 = .ref (encD d) ∧ s.t 2 = .ptr m.objs.length 0 ∧ s.t 3 = .v .nilIface ∧ s.t 4 = .ptr (m.objs.length + 3) 0 ∧ s.t 7 = ii ((chkN d).1 + (chkG d).1) ∧ s.t 10 = bb (chkN d).2.rd ∧ s.t 11 = ii (chkB d).1) ∧ s.m = ⟨CM1 m.objs r0 (chkG d).2 [], m.rows⟩) ?_ ?_)
  · refine TS.seq (TS.of [] fun Q hQ => ?_)
    simp only [go_sem, Nat.reduceEqDiff, Nat.reduceBEq, Int.reduceToNat, Int.reduceLT, Int.reduceLE, Int.reduceEq, Nat.reduceLeDiff, Nat.reduceLT, Nat.reduceMul, Nat.reduceAdd, String.reduceEq, i1, i2, i3, i4, i7, i10, i11, hm5]
    refine hQ .normal _ ?_; clear hQ Q
    refine TS.block (TS.loop (α := Nat × Int × CS) (fun x => [(1, .ref (encD d)), (2, .ptr m.objs.length 0), (3, .v .nilIface), (4, .ptr (m.objs.length + 3) 0), (7, ii x.2.1), (10, bb (chkN d).2.rd), (11, ii (chkB d).1), (102, slE d.give), (103, ii d.give.length), (104, ii x.1)]) (fun x => ⟨CM1 m.objs r0 x.2.2 [], m.rows⟩) (fun x => x.1 ≤ d.give.length ∧ 0 ≤ x.2.1 ∧ x.2.1 + szs (d.give.drop x.1) ≤ (chkN d).1 + szs d.give ∧ x.2.1 + (cargs (d.give.drop x.1) 1 x.2.2).1 = (chkN d).1 + (chkG d).1 ∧ (cargs (d.give.drop x.1) 1 x.2.2).2 = (chkG d).2) (fun x => d.give.length - x.1) (0, (chkN d).1, c7) (by simp) ⟨by simp [Has, upd_apply, i1, i2, i3, i4, i7, i10, i11], rfl, by simp [hG, hNle.1]⟩ ?_)
    rintro ⟨k, n, c⟩ st hH hm ⟨hk, hn0, hn1, hc1', hc2'⟩
    dsimp only at hH hm hk hn0 hn1 hc1' hc2'
    simp only [Has, List.mem_cons, List.not_mem_nil, or_false, forall_eq_or_imp, forall_eq] at hH; obtain ⟨j1, j2, j3, j4, j7, j10, j11, j39, j40, j41⟩ := hH
    by_cases hlt : k < d.give.length
    · obtain ⟨x, hx⟩ : ∃ x, d.give[k]? = some x := ⟨_, List.getElem?_eq_getElem hlt⟩
      have hdr : d.give.drop k = x :: d.give.drop (k + 1) := by rw [List.drop_eq_getElem_cons hlt]; congr 1; exact Option.some.inj ((List.getElem?_eq_getElem hlt).symm.trans hx)
      have hat := encEs_at hx
      have hlt5 : k * 5 < (encEs d.give).length := by rw [encEs_length]; omega
      have hw := wrap_succ hlt (by omega)
      have hszx := szE_at hx
      rw [hdr, cargs_cons] at hc1' hc2'
      rw [hdr, szs] at hn1
      have hcw : 0 ≤ (cwant x 1 c).1 ∧ (cwant x 1 c).1 ≤ szE x := cexpr_le x c
      have hsub := (cwant_sim x 1 c (by omega)).at_ m.objs r0 [.cells (encE x)] m.rows
      rw [encE_eq] at hsub
      generalize cwant x 1 c = X at hc1' hc2' hsub hcw
      have hw2 : IntKind.i64.wrap (n + X.1) = n + X.1 := wrap_small (by omega) (by omega)
      refine TS.of [] fun Q hQ => ?_
      simp only [go_sem, Nat.reduceEqDiff, Nat.reduceBEq, Int.reduceToNat, Int.reduceLT, Int.reduceLE, Int.reduceEq, Nat.reduceLeDiff, Nat.reduceLT, Nat.reduceMul, Nat.reduceAdd, String.reduceEq, j1, j2, j3, j4, j7, j10, j11, j39, j40, j41, hm, hlt, hat, hlt5]
      refine cal_eq hsub ?_
      simp only [go_sem, Nat.reduceEqDiff, Nat.reduceBEq, Int.reduceToNat, Int.reduceLT, Int.reduceLE, Int.reduceEq, Nat.reduceLeDiff, Nat.reduceLT, Nat.reduceMul, Nat.reduceAdd, String.reduceEq, j1, j2, j3, j4, j7, j10, j11, j39, j40, j41, hw, hw2]
      refine hQ .normal _ ?_; clear hQ Q
      refine ⟨_, _, (k + 1, n + X.1, X.2), DropW.ck1 m.objs r0 c X.2 [_] m.rows, ?_, ⟨hlt, by dsimp only; omega, by dsimp only; omega, by dsimp only at hc1' ⊢; omega, hc2'⟩, by dsimp only; omega⟩
      simp [upd_apply, j1, j2, j3, j4, j10, j11, j39, j40, IV.np, np_sh, npS, npEs, npTs, npL] <;> omega
    · have : d.give.drop k = [] := List.drop_eq_nil_of_le (by omega)
      rw [this] at hc1' hc2'
      simp only [cargs] at hc1' hc2'
      refine TS.of [] fun Q hQ => ?_
      simp only [go_sem, Nat.reduceEqDiff, Nat.reduceBEq, Int.reduceToNat, Int.reduceLT, Int.reduceLE, Int.reduceEq, Nat.reduceLeDiff, Nat.reduceLT, Nat.reduceMul, Nat.reduceAdd, String.reduceEq, j1, j2, j3, j4, j7, j10, j11, j39, j40, j41, hm, hlt]
      refine hQ (.exit 6) _ ?_; clear hQ Q
      exact ⟨rfl, by simp [upd_apply, j1, j2, j3, j4, j7, j10, j11]; omega, by rw [← hc2']⟩
  clear i1 i2 i3 i4 i7 i10 i11 hm5
  rintro e s6 ⟨rfl, ⟨i1, i2, i3, i4, i7, i10, i11⟩, hm6⟩
  generalize hg : (chkG d).2 = g at hm6
  generalize hout : (chkN d).2.rd = out at i10
  have hF : chkF d = if 2048 < chkSteps d then (chkM out g).fail 11 0 else chkM out g := by unfold chkF; rw [hout, hg]
  refine TS.seq (TS.mono (Q := fun e s => e = .normal ∧ (s.t 2 = .ptr m.objs.length 0 ∧ s.t 3 = .v .nilIface ∧ s.t 4 = .ptr (m.objs.length + 3) 0 ∧ s.t 7 = ii ((chkN d).1 + (chkG d).1) ∧ s.t 11 = ii (chkB d).1) ∧ s.m = ⟨CM1 m.objs r0 (chkM out g) [], m.rows⟩) ?_ ?_)
  · clear hF hg hG hc7
    cases hgr : g.rd with
    | true =>
      by_cases hmd : g.md = 2
      · have ht : chkM out g = { g with rd := true, md := 3 } := by simp [chkM, hgr, hmd]
        refine TS.of [] fun Q hQ => ?_
        simp only [go_sem, Nat.reduceEqDiff, Nat.reduceBEq, Int.reduceToNat, Int.reduceLT, Int.reduceLE, Int.reduceEq, Nat.reduceLeDiff, Nat.reduceLT, Nat.reduceMul, Nat.reduceAdd, String.reduceEq, i2, i3, i4, i7, i10, i11, hm6, hgr, hmd]
        refine hQ .normal _ ?_; clear hQ Q
        exact ⟨rfl, by simp [upd_apply, i2, i3, i4, i7, i11], by rw [ht]⟩
      · have ht : chkM out g = { g with rd := true } := by simp [chkM, hgr, hmd]
        refine TS.of [] fun Q hQ => ?_
        simp only [go_sem, Nat.reduceEqDiff, Nat.reduceBEq, Int.reduceToNat, Int.reduceLT, Int.reduceLE, Int.reduceEq, Nat.reduceLeDiff, Nat.reduceLT, Nat.reduceMul, Nat.reduceAdd, String.reduceEq, i2, i3, i4, i7, i10, i11, hm6, hgr, hmd]
        refine hQ .normal _ ?_; clear hQ Q
        exact ⟨rfl, by simp [upd_apply, i2, i3, i4, i7, i11], by rw [ht]⟩
    | false =>
      cases out with
      | true =>
        by_cases hmd : g.md = 2
        · have ht : chkM true g = { g with rd := true, md := 3 } := by simp [chkM, hgr, hmd]
          refine TS.of [] fun Q hQ => ?_
          simp only [go_sem, Nat.reduceEqDiff, Nat.reduceBEq, Int.reduceToNat, Int.reduceLT, Int.reduceLE, Int.reduceEq, Nat.reduceLeDiff, Nat.reduceLT, Nat.reduceMul, Nat.reduceAdd, String.reduceEq, i2, i3, i4, i7, i10, i11, hm6, hgr, hmd]
          refine hQ .normal _ ?_; clear hQ Q
          exact ⟨rfl, by simp [upd_apply, i2, i3, i4, i7, i11], by rw [ht]⟩
        · have ht : chkM true g = { g with rd := true } := by simp [chkM, hgr, hmd]
          refine TS.of [] fun Q hQ => ?_
          simp only [go_sem, Nat.reduceEqDiff, Nat.reduceBEq, Int.reduceToNat, Int.reduceLT, Int.reduceLE, Int.reduceEq, Nat.reduceLeDiff, Nat.reduceLT, Nat.reduceMul, Nat.reduceAdd, String.reduceEq, i2, i3, i4, i7, i10, i11, hm6, hgr, hmd]
          refine hQ .normal _ ?_; clear hQ Q
          exact ⟨rfl, by simp [upd_apply, i2, i3, i4, i7, i11], by rw [ht]⟩
      | false =>
        have ht : chkM false g = { g with rd := false } := by simp [chkM, hgr]
        refine TS.of [] fun Q hQ => ?_
        simp only [go_sem, Nat.reduceEqDiff, Nat.reduceBEq, Int.reduceToNat, Int.reduceLT, Int.reduceLE, Int.reduceEq, Nat.reduceLeDiff, Nat.reduceLT, Nat.reduceMul, Nat.reduceAdd, String.reduceEq, i2, i3, i4, i7, i10, i11, hm6, hgr]
        refine hQ .normal _ ?_; clear hQ Q
        exact ⟨rfl, by simp [upd_apply, i2, i3, i4, i7, i11], by rw [ht]⟩
  clear i1 i2 i3 i4 i7 i10 i11 hm6
  rintro e s7 ⟨rfl, ⟨i2, i3, i4, i7, i11⟩, hm7⟩
  generalize chkM out g = h at hF hm7
  have hw : IntKind.i64.wrap ((chkN d).1 + (chkG d).1 + (chkB d).1) = chkSteps d := wrap_small (by omega) (by omega)
  refine TS.seq (TS.mono (Q := fun e s => e = .normal ∧ (s.t 2 = .ptr m.objs.length 0 ∧ s.t 3 = .v .nilIface ∧ s.t 4 = .ptr (m.objs.length + 3) 0 ∧ s.t 7 = ii (chkSteps d)) ∧ s.m = ⟨CM1 m.objs r0 (chkF d) [], m.rows⟩) ?_ ?_)
  · by_cases hbig : 2048 < chkSteps d
    · rw [if_pos hbig] at hF
      refine TS.of [] fun Q hQ => ?_
      simp only [go_sem, Nat.reduceEqDiff, Nat.reduceBEq, Int.reduceToNat, Int.reduceLT, Int.reduceLE, Int.reduceEq, Nat.reduceLeDiff, Nat.reduceLT, Nat.reduceMul, Nat.reduceAdd, String.reduceEq, i2, i3, i4, i7, i11, hm7, hw, hbig]
      refine cal_eq ((fail_sim h 11 0).at_ m.objs r0 [] m.rows) ?_
      simp only [go_sem, Nat.reduceEqDiff, Nat.reduceBEq, Int.reduceToNat, Int.reduceLT, Int.reduceLE, Int.reduceEq, Nat.reduceLeDiff, Nat.reduceLT, Nat.reduceMul, Nat.reduceAdd, String.reduceEq]
      refine hQ .normal _ ?_; clear hQ Q
      exact ⟨rfl, by simp [upd_apply, i2, i3, i4], by rw [hF]⟩
    · rw [if_neg hbig] at hF
      refine TS.of [] fun Q hQ => ?_
      simp only [go_sem, Nat.reduceEqDiff, Nat.reduceBEq, Int.reduceToNat, Int.reduceLT, Int.reduceLE, Int.reduceEq, Nat.reduceLeDiff, Nat.reduceLT, Nat.reduceMul, Nat.reduceAdd, String.reduceEq, i2, i3, i4, i7, i11, hm7, hw, hbig]
      refine hQ .normal _ ?_; clear hQ Q
      exact ⟨rfl, by simp [upd_apply, i2, i3, i4], by rw [hF]⟩
  clear i2 i3 i4 i7 i11 hm7
  rintro e s8 ⟨rfl, ⟨i2, i3, i4, i7⟩, hm8⟩
  have hck : check d = match (chkF d).ft with
    | some p => (Info0, some p)
    | none => (⟨(chkF d).md, chkSteps d, (chkF d).us.length, (chkF d).tn⟩, none) := rfl
  clear hF
  generalize chkF d = f at hm8 hck
  generalize chkSteps d = stp at i7 hck
  subst hr0
  cases hf : f.ft with
  | some p =>
    rw [hf] at hck
    refine TS.of [] fun Q hQ => ?_
    simp only [go_sem, Nat.reduceEqDiff, Nat.reduceBEq, Int.reduceToNat, Int.reduceLT, Int.reduceLE, Int.reduceEq, Nat.reduceLeDiff, Nat.reduceLT, Nat.reduceMul, Nat.reduceAdd, String.reduceEq, i2, i3, i4, i7, hm8, hf, ftI_some]
    refine drn_of ⟨[], [156], [m.objs.length + 3]⟩ [0, 0, 2, 6, 14, 30, 1, 127] (by kernel_rfl) ?_
    simp only [go_sem, Nat.reduceEqDiff, Nat.reduceBEq, Int.reduceToNat, Int.reduceLT, Int.reduceLE, Int.reduceEq, Nat.reduceLeDiff, Nat.reduceLT, Nat.reduceMul, Nat.reduceAdd, String.reduceEq, i2, i3, i4, i7, hf, ftI_some, show ¬ (m.objs.length + 3 = m.objs.length) by omega]
    refine hQ .ret _ ?_; clear hQ Q; refine post_ret _ _ (.tup [.agg (encI Info0), errI (some p)]) ?_ ?_ (DropW.tail0 _ rfl) ⟨by rw [hck], rfl⟩
    · simp only [go_sem, Nat.reduceEqDiff, Nat.reduceBEq, Int.reduceToNat, Int.reduceLT, Int.reduceLE, Int.reduceEq, Nat.reduceLeDiff, Nat.reduceLT, Nat.reduceMul, Nat.reduceAdd, String.reduceEq, i2, i3, i4, i7, errI_some] <;> rfl
    · simp [IV.np, npL, errI_some]
  | none =>
    rw [hf] at hck
    refine TS.of [] fun Q hQ => ?_
    simp only [go_sem, Nat.reduceEqDiff, Nat.reduceBEq, Int.reduceToNat, Int.reduceLT, Int.reduceLE, Int.reduceEq, Nat.reduceLeDiff, Nat.reduceLT, Nat.reduceMul, Nat.reduceAdd, String.reduceEq, i2, i3, i4, i7, hm8, hf, ftI_none, Mem.map_, add11, encM_size]
    refine hQ .ret _ ?_; clear hQ Q; refine post_ret _ _ (.tup [.agg (encI ⟨f.md, stp, f.us.length, f.tn⟩), errI none]) ?_ ?_ (DropW.tail0 _ rfl) ⟨by rw [hck], rfl⟩
    · simp only [go_sem, Nat.reduceEqDiff, Nat.reduceBEq, Int.reduceToNat, Int.reduceLT, Int.reduceLE, Int.reduceEq, Nat.reduceLeDiff, Nat.reduceLT, Nat.reduceMul, Nat.reduceAdd, String.reduceEq, i2, i3, i4, i7, errI_none] <;> rfl
    · simp [IV.np, npL, errI_none]
end Go.Proofs.Ytphjldhdnmoolaa.A
/- The walks of some functions over the abstract machine. -/
namespace Go.Proofs.Ytphjldhdnmoolaa.A
open Go
/-! ref08: sizes, reads, has -/
mutual
def sizeE : Expr → Int
  | .mk _ _ _ a _ => 1 + sizeEs a
def sizeEs : List Expr → Int
  | [] => 0
  | e :: l => sizeE e + sizeEs l
end
mutual
theorem sizeE_bd : ∀ e : Expr, 0 < sizeE e ∧ sizeE e ≤ szE e
  | .mk k n s a p => by have := sizeEs_bd a; simp only [sizeE, szE]; omega
theorem sizeEs_bd : ∀ l : List Expr, 0 ≤ sizeEs l ∧ sizeEs l ≤ szs l
  | [] => by simp [sizeEs, szs]
  | e :: l => by have := sizeE_bd e; have := sizeEs_bd l; simp only [sizeEs, szs]; omega
end
theorem sizeE_eq (e : Expr) : sizeE e = 1 + sizeEs e.a := by cases e; rfl
set_option maxRecDepth 100000 in
set_option maxHeartbeats 4000000 in
theorem size_sim (m : Mem) : ∀ (N : Nat), N < 900000 → ∀ (e : Expr), szE e ≤ N → Sim 51 [.agg (encE e)] m (fun r m' => r = ii (sizeE e) ∧ m' = m) := by
  intro N
  induction N using Nat.strongRecOn with
  | ind N ih =>
  intro hB e hN
  have hsz := szE_eq e
  have hll := szs_len e.a
  refine Sim.ofS 21 [.tmp 2] Try.func51 rfl rfl rfl (by simp) fun wr => ?_
  simp only [go_sem, Nat.reduceEqDiff, Nat.reduceBEq, Int.reduceToNat, Int.reduceLT, Int.reduceLE, Int.reduceEq, Nat.reduceLeDiff, Nat.reduceLT, Nat.reduceMul, Nat.reduceAdd, String.reduceEq]
  refine TS.seq (TS.of [1] fun Q hQ => ?_)
  simp only [go_sem, Nat.reduceEqDiff, Nat.reduceBEq, Int.reduceToNat, Int.reduceLT, Int.reduceLE, Int.reduceEq, Nat.reduceLeDiff, Nat.reduceLT, Nat.reduceMul, Nat.reduceAdd, String.reduceEq, encE_eq]
  refine hQ .normal _ ?_; clear hQ Q
  refine TS.seq (TS.of [] fun Q hQ => ?_)
  simp only [go_sem, Nat.reduceEqDiff, Nat.reduceBEq, Int.reduceToNat, Int.reduceLT, Int.reduceLE, Int.reduceEq, Nat.reduceLeDiff, Nat.reduceLT, Nat.reduceMul, Nat.reduceAdd, String.reduceEq]
  refine hQ .normal _ ?_; clear hQ Q
  refine TS.seq (TS.seq (TS.of [] fun Q hQ => ?_))
  simp only [go_sem, Nat.reduceEqDiff, Nat.reduceBEq, Int.reduceToNat, Int.reduceLT, Int.reduceLE, Int.reduceEq, Nat.reduceLeDiff, Nat.reduceLT, Nat.reduceMul, Nat.reduceAdd, String.reduceEq]
  refine hQ .normal _ ?_; clear hQ Q
  refine TS.block (TS.loop (α := Nat × Int) (fun x => [(1, .ref (encE e)), (3, ii x.2), (4, ii x.1)]) (fun _ => m) (fun x => x.1 ≤ e.a.length ∧ 0 ≤ x.2 ∧ x.2 + sizeEs (e.a.drop x.1) = 1 + sizeEs e.a) (fun x => e.a.length - x.1) (0, 1) (by simp) ⟨by simp [Has, upd_apply, argsT, encE_eq], rfl, by simp⟩ ?_)
  rintro ⟨k, n⟩ st hH hm ⟨hk, hn0, hc⟩
  dsimp only at hH hm hk hn0 hc
  simp only [Has, List.mem_cons, List.not_mem_nil, or_false, forall_eq_or_imp, forall_eq] at hH; obtain ⟨i1, i3, i4⟩ := hH
  have hbd := sizeEs_bd e.a
  by_cases hlt : k < e.a.length
  · obtain ⟨x, hx⟩ : ∃ x, e.a[k]? = some x := ⟨_, List.getElem?_eq_getElem hlt⟩
    have hdr : e.a.drop k = x :: e.a.drop (k + 1) := by rw [List.drop_eq_getElem_cons hlt]; congr 1; exact Option.some.inj ((List.getElem?_eq_getElem hlt).symm.trans hx)
    have hat := encEs_at hx
    have hlt5 : k * 5 < (encEs e.a).length := by rw [encEs_length]; omega
    have hw := wrap_succ hlt (by omega)
    have hszx := szE_at hx
    rw [hdr, sizeEs] at hc
    have hb1 := sizeE_bd x
    have hb2 := sizeEs_bd (e.a.drop (k + 1))
    have hsub := ih (szE x) (by omega) (by omega) x (Nat.le_refl _)
    rw [encE_eq] at hsub
    have hw2 : IntKind.i64.wrap (n + sizeE x) = n + sizeE x := wrap_small (by omega) (by omega)
    refine TS.of [] fun Q hQ => ?_
    simp only [go_sem, Nat.reduceEqDiff, Nat.reduceBEq, Int.reduceToNat, Int.reduceLT, Int.reduceLE, Int.reduceEq, Nat.reduceLeDiff, Nat.reduceLT, Nat.reduceMul, Nat.reduceAdd, String.reduceEq, i1, i3, i4, encE_eq, hm, hlt, hat, hlt5]
    refine cal_eq hsub ?_
    simp only [go_sem, Nat.reduceEqDiff, Nat.reduceBEq, Int.reduceToNat, Int.reduceLT, Int.reduceLE, Int.reduceEq, Nat.reduceLeDiff, Nat.reduceLT, Nat.reduceMul, Nat.reduceAdd, String.reduceEq, i1, i3, i4, hw, hw2]
    refine hQ .normal _ ?_; clear hQ Q
    refine ⟨_, _, (k + 1, n + sizeE x), DropW.refl _, ?_, ⟨hlt, by dsimp only; omega, by dsimp only; omega⟩, by dsimp only; omega⟩
    simp [upd_apply, i1, IV.np, npE]
  · refine TS.of [] fun Q hQ => ?_
    simp only [go_sem, Nat.reduceEqDiff, Nat.reduceBEq, Int.reduceToNat, Int.reduceLT, Int.reduceLE, Int.reduceEq, Nat.reduceLeDiff, Nat.reduceLT, Nat.reduceMul, Nat.reduceAdd, String.reduceEq, i1, i3, i4, encE_eq, hm, hlt]
    refine hQ (.exit 0) _ ?_; clear hQ Q
    rw [List.drop_eq_nil_of_le (by omega)] at hc
    simp only [sizeEs] at hc
    obtain rfl : n = 1 + sizeEs e.a := by omega
    refine TS.of [] fun Q hQ => ?_
    simp only [go_sem, Nat.reduceEqDiff, Nat.reduceBEq, Int.reduceToNat, Int.reduceLT, Int.reduceLE, Int.reduceEq, Nat.reduceLeDiff, Nat.reduceLT, Nat.reduceMul, Nat.reduceAdd, String.reduceEq, i3]
    refine hQ .ret _ ?_; exact post_ret _ _ _ rfl rfl (DropW.refl _) ⟨by rw [sizeE_eq]; rfl, rfl⟩
mutual
def stepT : Stmt → Int
  | .mk k _ x n b e _ =>
    let k1 := 1 + sizeEs x
    let k2 := if k = 6 then IntKind.i64.wrap (k1 + (if stepTs b 0 < stepTs e 0 then stepTs e 0 else stepTs b 0)) else k1
    if k = 7 ∨ k = 8 then IntKind.i64.wrap (k2 + IntKind.i64.wrap (n * IntKind.i64.wrap (1 + stepTs b 0))) else k2
def stepTs : List Stmt → Int → Int
  | [], n => n
  | s :: l, n => stepTs l (if 1073741824 < IntKind.i64.wrap (n + stepT s) then 1073741824 else IntKind.i64.wrap (n + stepT s))
end
theorem stepT_eq (s : Stmt) : stepT s = (if s.k = 7 ∨ s.k = 8 then IntKind.i64.wrap ((if s.k = 6 then IntKind.i64.wrap (1 + sizeEs s.x + (if stepTs s.b 0 < stepTs s.e 0 then stepTs s.e 0 else stepTs s.b 0)) else 1 + sizeEs s.x) + IntKind.i64.wrap (s.n * IntKind.i64.wrap (1 + stepTs s.b 0))) else (if s.k = 6 then IntKind.i64.wrap (1 + sizeEs s.x + (if stepTs s.b 0 < stepTs s.e 0 then stepTs s.e 0 else stepTs s.b 0)) else 1 + sizeEs s.x)) := by
  cases s; rw [stepT]; rfl
set_option maxRecDepth 100000 in
set_option maxHeartbeats 4000000 in
theorem steps_sim (m : Mem) : ∀ (N : Nat), N < 900000 → ∀ (l : List Stmt), szt l ≤ N → ∀ m : Mem, Sim 49 [slT l] m (fun r m' => r = ii (stepTs l 0) ∧ m' = m) := by
  intro N
  induction N using Nat.strongRecOn with
  | ind N ih =>
  intro hB l hN m
  have hll := szt_len l
  refine Sim.ofS 74 [.tmp 2] Try.func49 rfl rfl rfl (by simp) fun wr => ?_
  simp only [go_sem, Nat.reduceEqDiff, Nat.reduceBEq, Int.reduceToNat, Int.reduceLT, Int.reduceLE, Int.reduceEq, Nat.reduceLeDiff, Nat.reduceLT, Nat.reduceMul, Nat.reduceAdd, String.reduceEq]
  refine TS.seq (TS.of [] fun Q hQ => ?_)
  simp only [go_sem, Nat.reduceEqDiff, Nat.reduceBEq, Int.reduceToNat, Int.reduceLT, Int.reduceLE, Int.reduceEq, Nat.reduceLeDiff, Nat.reduceLT, Nat.reduceMul, Nat.reduceAdd, String.reduceEq]
  refine hQ .normal _ ?_; clear hQ Q
  refine TS.seq (TS.of [] fun Q hQ => ?_)
  simp only [go_sem, Nat.reduceEqDiff, Nat.reduceBEq, Int.reduceToNat, Int.reduceLT, Int.reduceLE, Int.reduceEq, Nat.reduceLeDiff, Nat.reduceLT, Nat.reduceMul, Nat.reduceAdd, String.reduceEq]
  refine hQ .normal _ ?_; clear hQ Q
  refine TS.seq (TS.seq (TS.of [] fun Q hQ => ?_))
  simp only [go_sem, Nat.reduceEqDiff, Nat.reduceBEq, Int.reduceToNat, Int.reduceLT, Int.reduceLE, Int.reduceEq, Nat.reduceLeDiff, Nat.reduceLT, Nat.reduceMul, Nat.reduceAdd, String.reduceEq]
  refine hQ .normal _ ?_; clear hQ Q
  refine TS.block (TS.loop (α := Nat × Int) (fun x => [(0, slT l), (3, ii x.2), (4, ii x.1)]) (fun _ => m) (fun x => x.1 ≤ l.length ∧ stepTs (l.drop x.1) x.2 = stepTs l 0) (fun x => l.length - x.1) (0, 0) (by simp) ⟨by simp [Has, upd_apply, argsT], rfl, by simp⟩ ?_)
  rintro ⟨k, n⟩ st hH hm ⟨hk, hc⟩
  dsimp only at hH hm hk hc
  simp only [Has, List.mem_cons, List.not_mem_nil, or_false, forall_eq_or_imp, forall_eq] at hH; obtain ⟨i0, i3, i4⟩ := hH
  by_cases hlt : k < l.length
  · obtain ⟨x, hx⟩ : ∃ x, l[k]? = some x := ⟨_, List.getElem?_eq_getElem hlt⟩
    have hdr : l.drop k = x :: l.drop (k + 1) := by rw [List.drop_eq_getElem_cons hlt]; congr 1; exact Option.some.inj ((List.getElem?_eq_getElem hlt).symm.trans hx)
    have hat := encTs_at hx
    have hlt7 : k * 7 < (encTs l).length := by rw [encTs_length]; omega
    have hw := wrap_succ hlt (by omega)
    have hszx := szT_at hx
    have hxsz := szT_eq x
    have hxl := szs_len x.x
    have hbd := sizeEs_bd x.x
    rw [hdr, stepTs] at hc
    have hst := stepT_eq x
    refine TS.seq (TS.of [] fun Q hQ => ?_)
    simp only [go_sem, Nat.reduceEqDiff, Nat.reduceBEq, Int.reduceToNat, Int.reduceLT, Int.reduceLE, Int.reduceEq, Nat.reduceLeDiff, Nat.reduceLT, Nat.reduceMul, Nat.reduceAdd, String.reduceEq, i0, i3, i4, hm, hlt]
    refine hQ .normal _ ?_; clear hQ Q
    refine TS.seq (TS.mono (Q := fun e1 s => e1 = .normal ∧ (s.t 0 = slT l ∧ s.t 3 = ii (if 1073741824 < IntKind.i64.wrap (n + stepT x) then 1073741824 else IntKind.i64.wrap (n + stepT x)) ∧ s.t 4 = ii k) ∧ s.m = ⟨m.objs ++ [.cells (encT x)], m.rows⟩) ?_ ?_)
    · refine TS.block (TS.seq (TS.of [] fun Q hQ => ?_))
      simp only [go_sem, Nat.reduceEqDiff, Nat.reduceBEq, Int.reduceToNat, Int.reduceLT, Int.reduceLE, Int.reduceEq, Nat.reduceLeDiff, Nat.reduceLT, Nat.reduceMul, Nat.reduceAdd, String.reduceEq, i0, i3, i4, hlt, hat, hlt7]
      refine hQ .normal _ ?_; clear hQ Q
      refine TS.seq (TS.of [] fun Q hQ => ?_)
      simp only [go_sem, Nat.reduceEqDiff, Nat.reduceBEq, Int.reduceToNat, Int.reduceLT, Int.reduceLE, Int.reduceEq, Nat.reduceLeDiff, Nat.reduceLT, Nat.reduceMul, Nat.reduceAdd, String.reduceEq]
      refine hQ .normal _ ?_; clear hQ Q
      refine TS.seq (TS.mono (Q := fun e1 s => e1 = .normal ∧ (s.t 0 = slT l ∧ s.t 3 = ii n ∧ s.t 4 = ii k ∧ s.t 5 = .ptr m.objs.length 0 ∧ s.t 6 = ii (1 + sizeEs x.x)) ∧ s.m = ⟨m.objs ++ [.cells (encT x)], m.rows⟩) ?_ ?_)
      · refine TS.seq (TS.of [] fun Q hQ => ?_)
        simp only [go_sem, Nat.reduceEqDiff, Nat.reduceBEq, Int.reduceToNat, Int.reduceLT, Int.reduceLE, Int.reduceEq, Nat.reduceLeDiff, Nat.reduceLT, Nat.reduceMul, Nat.reduceAdd, String.reduceEq]
        refine hQ .normal _ ?_; clear hQ Q
        refine TS.block (TS.loop (α := Nat × Int) (fun y => [(0, slT l), (3, ii n), (4, ii k), (5, .ptr m.objs.length 0), (6, ii y.2), (7, ii y.1)]) (fun _ => ⟨m.objs ++ [.cells (encT x)], m.rows⟩) (fun y => y.1 ≤ x.x.length ∧ 0 ≤ y.2 ∧ y.2 + sizeEs (x.x.drop y.1) = 1 + sizeEs x.x) (fun y => x.x.length - y.1) (0, 1) (by simp) ⟨by simp [Has, upd_apply, i0, i3, i4], by rw [encT_eq], by simp⟩ ?_)
        rintro ⟨j, q⟩ s2 hH hm2 ⟨hj, hq0, hq⟩
        dsimp only at hH hm2 hj hq0 hq
        simp only [Has, List.mem_cons, List.not_mem_nil, or_false, forall_eq_or_imp, forall_eq] at hH; obtain ⟨j0, j3, j4, j5, j6, j7⟩ := hH
        by_cases hjl : j < x.x.length
        · obtain ⟨y, hy⟩ : ∃ y, x.x[j]? = some y := ⟨_, List.getElem?_eq_getElem hjl⟩
          have hdy : x.x.drop j = y :: x.x.drop (j + 1) := by rw [List.drop_eq_getElem_cons hjl]; congr 1; exact Option.some.inj ((List.getElem?_eq_getElem hjl).symm.trans hy)
          have hay := encEs_at hy
          have hly : j * 5 < (encEs x.x).length := by rw [encEs_length]; omega
          have hwj := wrap_succ hjl (by omega)
          have hszy := szE_at hy
          rw [hdy, sizeEs] at hq
          have hb1 := sizeE_bd y
          have hb2 := sizeEs_bd (x.x.drop (j + 1))
          have hsub := fun m => size_sim m (szE y) (by omega) y (Nat.le_refl _)
          rw [encE_eq] at hsub
          have hw2 : IntKind.i64.wrap (q + sizeE y) = q + sizeE y := wrap_small (by omega) (by omega)
          refine TS.of [] fun Q hQ => ?_
          simp only [go_sem, Nat.reduceEqDiff, Nat.reduceBEq, Int.reduceToNat, Int.reduceLT, Int.reduceLE, Int.reduceEq, Nat.reduceLeDiff, Nat.reduceLT, Nat.reduceMul, Nat.reduceAdd, String.reduceEq, j0, j3, j4, j5, j6, j7, encT_eq, hm2, hjl, hay, hly]
          refine cal_eq (hsub _) ?_
          simp only [go_sem, Nat.reduceEqDiff, Nat.reduceBEq, Int.reduceToNat, Int.reduceLT, Int.reduceLE, Int.reduceEq, Nat.reduceLeDiff, Nat.reduceLT, Nat.reduceMul, Nat.reduceAdd, String.reduceEq, j0, j3, j4, j5, j6, j7, hwj, hw2]
          refine hQ .normal _ ?_; clear hQ Q
          refine ⟨_, _, (j + 1, q + sizeE y), by rw [encT_eq]; exact DropW.refl _, ?_, ⟨hjl, by dsimp only; omega, by dsimp only; omega⟩, by dsimp only; omega⟩
          simp [upd_apply, j0, j3, j4, j5, IV.np, np_sh, npTs]
        · refine TS.of [] fun Q hQ => ?_
          simp only [go_sem, Nat.reduceEqDiff, Nat.reduceBEq, Int.reduceToNat, Int.reduceLT, Int.reduceLE, Int.reduceEq, Nat.reduceLeDiff, Nat.reduceLT, Nat.reduceMul, Nat.reduceAdd, String.reduceEq, j0, j3, j4, j5, j6, j7, encT_eq, hm2, hjl]
          refine hQ (.exit 2) _ ?_; clear hQ Q
          rw [List.drop_eq_nil_of_le (by omega)] at hq
          simp only [sizeEs] at hq
          exact ⟨rfl, by simp [upd_apply, j0, j3, j4, j5, j6]; omega, by rw [encT_eq]⟩
      rintro e1 s1 ⟨rfl, ⟨i0, i3, i4, i5, i6⟩, hm1⟩
      have hb := ih (szt x.b) (by omega) (by omega) x.b (Nat.le_refl _)
      have he := ih (szt x.e) (by omega) (by omega) x.e (Nat.le_refl _)
      generalize stepTs x.b 0 = sb at hb hst
      generalize stepTs x.e 0 = se at he hst
      generalize sizeEs x.x = z at hst i6 hbd
      by_cases k6 : x.k = 6
      · have k7 : ¬ x.k = 7 := by omega
        have k8 : ¬ x.k = 8 := by omega
        rw [if_neg (by omega), if_pos k6] at hst
        by_cases hlts : sb < se
        · rw [if_pos hlts] at hst
          rw [hst]
          by_cases hcap : 1073741824 < IntKind.i64.wrap (n + IntKind.i64.wrap (1 + z + se))
          · rw [if_pos hcap]
            refine TS.of [] fun Q hQ => ?_
            simp only [go_sem, Nat.reduceEqDiff, Nat.reduceBEq, Int.reduceToNat, Int.reduceLT, Int.reduceLE, Int.reduceEq, Nat.reduceLeDiff, Nat.reduceLT, Nat.reduceMul, Nat.reduceAdd, String.reduceEq, i0, i3, i4, i5, i6, hm1, encT_eq, eq_true k6, eq_false k7, eq_false k8, hlts, hcap]
            refine cal_eq (hb _) ?_
            simp only [go_sem, Nat.reduceEqDiff, Nat.reduceBEq, Int.reduceToNat, Int.reduceLT, Int.reduceLE, Int.reduceEq, Nat.reduceLeDiff, Nat.reduceLT, Nat.reduceMul, Nat.reduceAdd, String.reduceEq, i0, i3, i4, i5, i6, encT_eq, eq_true k6, eq_false k7, eq_false k8, hlts, hcap]
            refine cal_eq (he _) ?_
            simp only [go_sem, Nat.reduceEqDiff, Nat.reduceBEq, Int.reduceToNat, Int.reduceLT, Int.reduceLE, Int.reduceEq, Nat.reduceLeDiff, Nat.reduceLT, Nat.reduceMul, Nat.reduceAdd, String.reduceEq, i0, i3, i4, i5, i6, encT_eq, eq_true k6, eq_false k7, eq_false k8, hlts, hcap]
            refine hQ .normal _ ?_; clear hQ Q
            exact ⟨rfl, by simp [upd_apply, i0, i4], by first | rfl | rw [encT_eq]⟩
          · rw [if_neg hcap]
            refine TS.of [] fun Q hQ => ?_
            simp only [go_sem, Nat.reduceEqDiff, Nat.reduceBEq, Int.reduceToNat, Int.reduceLT, Int.reduceLE, Int.reduceEq, Nat.reduceLeDiff, Nat.reduceLT, Nat.reduceMul, Nat.reduceAdd, String.reduceEq, i0, i3, i4, i5, i6, hm1, encT_eq, eq_true k6, eq_false k7, eq_false k8, hlts, hcap]
            refine cal_eq (hb _) ?_
            simp only [go_sem, Nat.reduceEqDiff, Nat.reduceBEq, Int.reduceToNat, Int.reduceLT, Int.reduceLE, Int.reduceEq, Nat.reduceLeDiff, Nat.reduceLT, Nat.reduceMul, Nat.reduceAdd, String.reduceEq, i0, i3, i4, i5, i6, encT_eq, eq_true k6, eq_false k7, eq_false k8, hlts, hcap]
            refine cal_eq (he _) ?_
            simp only [go_sem, Nat.reduceEqDiff, Nat.reduceBEq, Int.reduceToNat, Int.reduceLT, Int.reduceLE, Int.reduceEq, Nat.reduceLeDiff, Nat.reduceLT, Nat.reduceMul, Nat.reduceAdd, String.reduceEq, i0, i3, i4, i5, i6, encT_eq, eq_true k6, eq_false k7, eq_false k8, hlts, hcap]
            refine hQ .normal _ ?_; clear hQ Q
            exact ⟨rfl, by simp [upd_apply, i0, i4], by first | rfl | rw [encT_eq]⟩
        · rw [if_neg hlts] at hst
          rw [hst]
          by_cases hcap : 1073741824 < IntKind.i64.wrap (n + IntKind.i64.wrap (1 + z + sb))
          · rw [if_pos hcap]
            refine TS.of [] fun Q hQ => ?_
            simp only [go_sem, Nat.reduceEqDiff, Nat.reduceBEq, Int.reduceToNat, Int.reduceLT, Int.reduceLE, Int.reduceEq, Nat.reduceLeDiff, Nat.reduceLT, Nat.reduceMul, Nat.reduceAdd, String.reduceEq, i0, i3, i4, i5, i6, hm1, encT_eq, eq_true k6, eq_false k7, eq_false k8, hlts, hcap]
            refine cal_eq (hb _) ?_
            simp only [go_sem, Nat.reduceEqDiff, Nat.reduceBEq, Int.reduceToNat, Int.reduceLT, Int.reduceLE, Int.reduceEq, Nat.reduceLeDiff, Nat.reduceLT, Nat.reduceMul, Nat.reduceAdd, String.reduceEq, i0, i3, i4, i5, i6, encT_eq, eq_true k6, eq_false k7, eq_false k8, hlts, hcap]
            refine cal_eq (he _) ?_
            simp only [go_sem, Nat.reduceEqDiff, Nat.reduceBEq, Int.reduceToNat, Int.reduceLT, Int.reduceLE, Int.reduceEq, Nat.reduceLeDiff, Nat.reduceLT, Nat.reduceMul, Nat.reduceAdd, String.reduceEq, i0, i3, i4, i5, i6, encT_eq, eq_true k6, eq_false k7, eq_false k8, hlts, hcap]
            refine hQ .normal _ ?_; clear hQ Q
            exact ⟨rfl, by simp [upd_apply, i0, i4], by first | rfl | rw [encT_eq]⟩
          · rw [if_neg hcap]
            refine TS.of [] fun Q hQ => ?_
            simp only [go_sem, Nat.reduceEqDiff, Nat.reduceBEq, Int.reduceToNat, Int.reduceLT, Int.reduceLE, Int.reduceEq, Nat.reduceLeDiff, Nat.reduceLT, Nat.reduceMul, Nat.reduceAdd, String.reduceEq, i0, i3, i4, i5, i6, hm1, encT_eq, eq_true k6, eq_false k7, eq_false k8, hlts, hcap]
            refine cal_eq (hb _) ?_
            simp only [go_sem, Nat.reduceEqDiff, Nat.reduceBEq, Int.reduceToNat, Int.reduceLT, Int.reduceLE, Int.reduceEq, Nat.reduceLeDiff, Nat.reduceLT, Nat.reduceMul, Nat.reduceAdd, String.reduceEq, i0, i3, i4, i5, i6, encT_eq, eq_true k6, eq_false k7, eq_false k8, hlts, hcap]
            refine cal_eq (he _) ?_
            simp only [go_sem, Nat.reduceEqDiff, Nat.reduceBEq, Int.reduceToNat, Int.reduceLT, Int.reduceLE, Int.reduceEq, Nat.reduceLeDiff, Nat.reduceLT, Nat.reduceMul, Nat.reduceAdd, String.reduceEq, i0, i3, i4, i5, i6, encT_eq, eq_true k6, eq_false k7, eq_false k8, hlts, hcap]
            refine hQ .normal _ ?_; clear hQ Q
            exact ⟨rfl, by simp [upd_apply, i0, i4], by first | rfl | rw [encT_eq]⟩
      by_cases k7 : x.k = 7
      · rw [if_pos (.inl k7), if_neg k6] at hst
        rw [hst]
        by_cases hcap : 1073741824 < IntKind.i64.wrap (n + IntKind.i64.wrap (1 + z + IntKind.i64.wrap (x.n * IntKind.i64.wrap (1 + sb))))
        · rw [if_pos hcap]
          refine TS.of [] fun Q hQ => ?_
          simp only [go_sem, Nat.reduceEqDiff, Nat.reduceBEq, Int.reduceToNat, Int.reduceLT, Int.reduceLE, Int.reduceEq, Nat.reduceLeDiff, Nat.reduceLT, Nat.reduceMul, Nat.reduceAdd, String.reduceEq, i0, i3, i4, i5, i6, hm1, encT_eq, eq_false k6, eq_true k7, hcap]
          refine drn_of ⟨[], [], []⟩ [0, 0, 2, 0, 8, 24, 56, 126, 255, 511] (by kernel_rfl) ?_
          simp only [go_sem, Nat.reduceEqDiff, Nat.reduceBEq, Int.reduceToNat, Int.reduceLT, Int.reduceLE, Int.reduceEq, Nat.reduceLeDiff, Nat.reduceLT, Nat.reduceMul, Nat.reduceAdd, String.reduceEq, i0, i3, i4, i5, i6, encT_eq]
          refine cald_eq (hb _) ?_
          simp only [go_sem, Nat.reduceEqDiff, Nat.reduceBEq, Int.reduceToNat, Int.reduceLT, Int.reduceLE, Int.reduceEq, Nat.reduceLeDiff, Nat.reduceLT, Nat.reduceMul, Nat.reduceAdd, String.reduceEq, i0, i3, i4, i5, i6, encT_eq, eq_false k6, eq_true k7, hcap]
          refine hQ .normal _ ?_; clear hQ Q
          exact ⟨rfl, by simp [upd_apply, i0, i4], by first | rfl | rw [encT_eq]⟩
        · rw [if_neg hcap]
          refine TS.of [] fun Q hQ => ?_
          simp only [go_sem, Nat.reduceEqDiff, Nat.reduceBEq, Int.reduceToNat, Int.reduceLT, Int.reduceLE, Int.reduceEq, Nat.reduceLeDiff, Nat.reduceLT, Nat.reduceMul, Nat.reduceAdd, String.reduceEq, i0, i3, i4, i5, i6, hm1, encT_eq, eq_false k6, eq_true k7, hcap]
          refine drn_of ⟨[], [], []⟩ [0, 0, 2, 0, 8, 24, 56, 126, 255, 511] (by kernel_rfl) ?_
          simp only [go_sem, Nat.reduceEqDiff, Nat.reduceBEq, Int.reduceToNat, Int.reduceLT, Int.reduceLE, Int.reduceEq, Nat.reduceLeDiff, Nat.reduceLT, Nat.reduceMul, Nat.reduceAdd, String.reduceEq, i0, i3, i4, i5, i6, encT_eq]
          refine cald_eq (hb _) ?_
          simp only [go_sem, Nat.reduceEqDiff, Nat.reduceBEq, Int.reduceToNat, Int.reduceLT, Int.reduceLE, Int.reduceEq, Nat.reduceLeDiff, Nat.reduceLT, Nat.reduceMul, Nat.reduceAdd, String.reduceEq, i0, i3, i4, i5, i6, encT_eq, eq_false k6, eq_true k7, hcap]
          refine hQ .normal _ ?_; clear hQ Q
          exact ⟨rfl, by simp [upd_apply, i0, i4], by first | rfl | rw [encT_eq]⟩
      by_cases k8 : x.k = 8
      · rw [if_pos (.inr k8), if_neg k6] at hst
        rw [hst]
        by_cases hcap : 1073741824 < IntKind.i64.wrap (n + IntKind.i64.wrap (1 + z + IntKind.i64.wrap (x.n * IntKind.i64.wrap (1 + sb))))
        · rw [if_pos hcap]
          refine TS.of [] fun Q hQ => ?_
          simp only [go_sem, Nat.reduceEqDiff, Nat.reduceBEq, Int.reduceToNat, Int.reduceLT, Int.reduceLE, Int.reduceEq, Nat.reduceLeDiff, Nat.reduceLT, Nat.reduceMul, Nat.reduceAdd, String.reduceEq, i0, i3, i4, i5, i6, hm1, encT_eq, eq_false k6, eq_false k7, eq_true k8, hcap]
          refine drn_of ⟨[], [], []⟩ [0, 0, 2, 0, 8, 24, 56, 126, 255, 511] (by kernel_rfl) ?_
          simp only [go_sem, Nat.reduceEqDiff, Nat.reduceBEq, Int.reduceToNat, Int.reduceLT, Int.reduceLE, Int.reduceEq, Nat.reduceLeDiff, Nat.reduceLT, Nat.reduceMul, Nat.reduceAdd, String.reduceEq, i0, i3, i4, i5, i6, encT_eq]
          refine cald_eq (hb _) ?_
          simp only [go_sem, Nat.reduceEqDiff, Nat.reduceBEq, Int.reduceToNat, Int.reduceLT, Int.reduceLE, Int.reduceEq, Nat.reduceLeDiff, Nat.reduceLT, Nat.reduceMul, Nat.reduceAdd, String.reduceEq, i0, i3, i4, i5, i6, encT_eq, eq_false k6, eq_false k7, eq_true k8, hcap]
          refine hQ .normal _ ?_; clear hQ Q
          exact ⟨rfl, by simp [upd_apply, i0, i4], by first | rfl | rw [encT_eq]⟩
        · rw [if_neg hcap]
          refine TS.of [] fun Q hQ => ?_
          simp only [go_sem, Nat.reduceEqDiff, Nat.reduceBEq, Int.reduceToNat, Int.reduceLT, Int.reduceLE, Int.reduceEq, Nat.reduceLeDiff, Nat.reduceLT, Nat.reduceMul, Nat.reduceAdd, String.reduceEq, i0, i3, i4, i5, i6, hm1, encT_eq, eq_false k6, eq_false k7, eq_true k8, hcap]
          refine drn_of ⟨[], [], []⟩ [0, 0, 2, 0, 8, 24, 56, 126, 255, 511] (by kernel_rfl) ?_
          simp only [go_sem, Nat.reduceEqDiff, Nat.reduceBEq, Int.reduceToNat, Int.reduceLT, Int.reduceLE, Int.reduceEq, Nat.reduceLeDiff, Nat.reduceLT, Nat.reduceMul, Nat.reduceAdd, String.reduceEq, i0, i3, i4, i5, i6, encT_eq]
          refine cald_eq (hb _) ?_
          simp only [go_sem, Nat.reduceEqDiff, Nat.reduceBEq, Int.reduceToNat, Int.reduceLT, Int.reduceLE, Int.reduceEq, Nat.reduceLeDiff, Nat.reduceLT, Nat.reduceMul, Nat.reduceAdd, String.reduceEq, i0, i3, i4, i5, i6, encT_eq, eq_false k6, eq_false k7, eq_true k8, hcap]
          refine hQ .normal _ ?_; clear hQ Q
          exact ⟨rfl, by simp [upd_apply, i0, i4], by first | rfl | rw [encT_eq]⟩
      rw [if_neg (by omega), if_neg k6] at hst
      rw [hst]
      by_cases hcap : 1073741824 < IntKind.i64.wrap (n + (1 + z))
      · rw [if_pos hcap]
        refine TS.of [] fun Q hQ => ?_
        simp only [go_sem, Nat.reduceEqDiff, Nat.reduceBEq, Int.reduceToNat, Int.reduceLT, Int.reduceLE, Int.reduceEq, Nat.reduceLeDiff, Nat.reduceLT, Nat.reduceMul, Nat.reduceAdd, String.reduceEq, i0, i3, i4, i5, i6, hm1, encT_eq, eq_false k6, eq_false k7, eq_false k8, hcap]
        refine hQ .normal _ ?_; clear hQ Q
        exact ⟨rfl, by simp [upd_apply, i0, i4], by first | rfl | rw [encT_eq]⟩
      · rw [if_neg hcap]
        refine TS.of [] fun Q hQ => ?_
        simp only [go_sem, Nat.reduceEqDiff, Nat.reduceBEq, Int.reduceToNat, Int.reduceLT, Int.reduceLE, Int.reduceEq, Nat.reduceLeDiff, Nat.reduceLT, Nat.reduceMul, Nat.reduceAdd, String.reduceEq, i0, i3, i4, i5, i6, hm1, encT_eq, eq_false k6, eq_false k7, eq_false k8, hcap]
        refine hQ .normal _ ?_; clear hQ Q
        exact ⟨rfl, by simp [upd_apply, i0, i4], by first | rfl | rw [encT_eq]⟩
    · rintro e1 s1 ⟨rfl, ⟨i0, i3, i4⟩, hm1⟩
      refine TS.of [] fun Q hQ => ?_
      simp only [go_sem, Nat.reduceEqDiff, Nat.reduceBEq, Int.reduceToNat, Int.reduceLT, Int.reduceLE, Int.reduceEq, Nat.reduceLeDiff, Nat.reduceLT, Nat.reduceMul, Nat.reduceAdd, String.reduceEq, i0, i3, i4, hm1, hw]
      refine hQ .normal _ ?_; clear hQ Q
      refine ⟨m.objs.length, m.rows.length, (k + 1, if 1073741824 < IntKind.i64.wrap (n + stepT x) then 1073741824 else IntKind.i64.wrap (n + stepT x)), DropW.tail0 [.cells (encT x)] rfl, ?_, ⟨hlt, hc⟩, by dsimp only; omega⟩
      simp [upd_apply, i0, i3, IV.np, np_sh, npTs]
  · refine TS.of [] fun Q hQ => ?_
    simp only [go_sem, Nat.reduceEqDiff, Nat.reduceBEq, Int.reduceToNat, Int.reduceLT, Int.reduceLE, Int.reduceEq, Nat.reduceLeDiff, Nat.reduceLT, Nat.reduceMul, Nat.reduceAdd, String.reduceEq, i0, i3, i4, hm, hlt]
    refine hQ (.exit 0) _ ?_; clear hQ Q
    rw [List.drop_eq_nil_of_le (by omega), stepTs] at hc
    subst hc
    refine TS.of [] fun Q hQ => ?_
    simp only [go_sem, Nat.reduceEqDiff, Nat.reduceBEq, Int.reduceToNat, Int.reduceLT, Int.reduceLE, Int.reduceEq, Nat.reduceLeDiff, Nat.reduceLT, Nat.reduceMul, Nat.reduceAdd, String.reduceEq, i3]
    refine hQ .ret _ ?_; exact post_ret _ _ _ rfl rfl (DropW.refl _) ⟨rfl, rfl⟩
end Go.Proofs.Ytphjldhdnmoolaa.A
/- The reference's Cells. -/
namespace Go.Proofs.Ytphjldhdnmoolaa.A
open Go
mutual
def cellsE : Expr → Bool
  | .mk k _ _ a _ => (k == 3) || cells a
def cells : List Expr → Bool
  | [] => false
  | e :: l => cellsE e || cells l
end
theorem cells_take : ∀ (l : List Expr) (k : Nat) (e : Expr), l[k]? = some e → cells (l.take (k + 1)) = (cells (l.take k) || ((e.k == 3) || cells e.a))
  | [], k, e, h => by simp at h
  | x :: l, 0, e, h => by simp at h; subst h; cases x; simp only [List.take_succ_cons, List.take_zero, cells, cellsE, Expr.k, Expr.a, Bool.or_false, Bool.false_or]
  | x :: l, k + 1, e, h => by
    simp at h
    simp only [List.take_succ_cons, cells, cells_take l k e h, Bool.or_assoc]
theorem cells_at : ∀ (l : List Expr) (k : Nat) (e : Expr), l[k]? = some e → ((e.k == 3) || cells e.a) = true → cells l = true
  | [], k, e, h, _ => by simp at h
  | x :: l, 0, e, h, g => by simp at h; subst h; cases x; simp [cells, cellsE, Expr.k, Expr.a] at *; exact .inl g
  | x :: l, k + 1, e, h, g => by simp at h; simp [cells, cells_at l k e h g]
set_option maxRecDepth 100000 in
set_option maxHeartbeats 1000000 in
theorem cells_sim (m : Mem) : ∀ (N : Nat), N < 900000 → ∀ (l : List Expr), szs l ≤ N → Sim 36 [slE l] m (fun r m' => r = bb (cells l) ∧ m' = m) := by
  intro N
  induction N using Nat.strongRecOn with
  | ind N ih =>
  intro hB l hN
  have hll := szs_len l
  refine Sim.ofS 24 [.tmp 2] Try.func36 rfl rfl rfl (by simp) fun wr => ?_
  simp only [go_sem, Nat.reduceLT, Nat.reduceEqDiff]
  refine TS.seq (TS.of [] fun Q hQ => ?_)
  simp only [go_sem, Nat.reduceLT, Nat.reduceEqDiff]
  refine hQ .normal _ ?_
  refine (TS.seq (TS.seq (TS.of [] fun Q hQ => ?_)))
  simp only [go_sem, Nat.reduceLT, Nat.reduceEqDiff]
  refine hQ .normal _ ?_
  refine (TS.block (TS.loop (α := Nat) (fun k => [(0, slE l), (3, ii k)]) (fun _ => m) (fun k => k ≤ l.length ∧ cells (l.take k) = false) (fun k => l.length - k) 0 (by simp) ⟨by simp [Has, upd_apply, argsT], rfl, by simp [cells]⟩ ?_))
  rintro k s hH hm ⟨hk, hc⟩
  simp only [Has, List.mem_cons, List.not_mem_nil, or_false, forall_eq_or_imp, forall_eq] at hH
  obtain ⟨h0, h3⟩ := hH
  by_cases hlt : k < l.length
  · obtain ⟨e, he⟩ : ∃ e, l[k]? = some e := ⟨l[k], List.getElem?_eq_getElem hlt⟩
    have hat := encEs_at he
    have hlt5 : k * 5 < (encEs l).length := by rw [encEs_length]; omega
    have hw := wrap_succ hlt (by omega)
    have hsz : szs e.a < N := by have := szs_at he; omega
    by_cases h3' : e.k = 3
    · refine TS.of [] fun Q hQ => ?_
      simp only [go_sem, Nat.reduceLT, Nat.reduceEqDiff, h0, h3, hm, hlt, hat, h3', hlt5, hw]
      refine hQ .ret _ ?_; exact (post_ret _ _ _ rfl rfl (DropW.refl m) ⟨by rw [cells_at l k e he (by simp [h3'])]; rfl, rfl⟩)
    · refine TS.of [] fun Q hQ => ?_
      simp only [go_sem, Nat.reduceLT, Nat.reduceEqDiff, h0, h3, hm, hlt, hat, h3', hlt5, hw]
      refine cal_eq (m0 := m) (r0 := bb (cells e.a)) ?_ ?_
      · exact ih _ hsz (by omega) e.a (Nat.le_refl _)
      have hct := cells_take l k e he
      rw [hc, show (e.k == 3) = false by simp [h3'], Bool.false_or, Bool.false_or] at hct
      cases hce : cells e.a with
      | true =>
        simp only [go_sem, Nat.reduceLT, Nat.reduceEqDiff, h0, h3, hm, hlt, hat, h3', hlt5, hw]
        refine hQ .ret _ ?_; exact (post_ret _ _ _ rfl rfl (DropW.refl m) ⟨by rw [cells_at l k e he (by simp [hce])]; rfl, rfl⟩)
      | false =>
        simp only [go_sem, Nat.reduceLT, Nat.reduceEqDiff, h0, h3, hm, hlt, hat, h3', hlt5, hw]
        refine hQ .normal _ ?_
        refine ⟨_, _, k + 1, DropW.refl m, ?_, ⟨hlt, by rw [hct, hce]⟩, by omega⟩
        simp [upd_apply, h0, IV.np, SK.np, npEs]
  · refine TS.of [] fun Q hQ => ?_
    simp only [go_sem, Nat.reduceLT, Nat.reduceEqDiff, h0, h3, hm, hlt]
    refine hQ (.exit 0) _ ?_
    refine TS.of [] fun Q hQ => ?_
    simp only [go_sem, Nat.reduceLT, Nat.reduceEqDiff]
    refine hQ .ret _ ?_
    refine (post_ret _ _ _ rfl rfl (DropW.refl m) ⟨?_, rfl⟩)
    rw [List.take_of_length_le (by omega)] at hc
    rw [hc]; rfl
end Go.Proofs.Ytphjldhdnmoolaa.A
/- The walks of some functions over the abstract machine. -/
namespace Go.Proofs.Ytphjldhdnmoolaa.A
open Go
/-! ref08: has, reads -/
mutual
def hasT (a b : Int) : Stmt → Bool
  | .mk k _ _ _ x y _ => (decide (a ≤ k) && decide (k ≤ b)) || (hasTs a b x || hasTs a b y)
def hasTs (a b : Int) : List Stmt → Bool
  | [] => false
  | s :: l => hasT a b s || hasTs a b l
end
mutual
def readsT : Stmt → Bool
  | .mk _ _ x _ b e _ => cells x || (readsTs b || readsTs e)
def readsTs : List Stmt → Bool
  | [] => false
  | s :: l => readsT s || readsTs l
end
theorem hasT_eq (a b : Int) (s : Stmt) : hasT a b s = ((decide (a ≤ s.k) && decide (s.k ≤ b)) || (hasTs a b s.b || hasTs a b s.e)) := by cases s; rfl
theorem readsT_eq (s : Stmt) : readsT s = (cells s.x || (readsTs s.b || readsTs s.e)) := by cases s; rfl
set_option maxRecDepth 100000 in
set_option maxHeartbeats 4000000 in
theorem hasS_sim (a b : Int) : ∀ (N : Nat), N < 900000 → ∀ (l : List Stmt), szt l ≤ N → ∀ m : Mem, Sim 34 [slT l, ii a, ii b] m (fun r m' => r = bb (hasTs a b l) ∧ m' = m) := by
  intro N
  induction N using Nat.strongRecOn with
  | ind N ih =>
  intro hB l hN m
  have hll := szt_len l
  refine Sim.ofS 50 [.tmp 6] Try.func34 rfl rfl rfl (by simp) fun wr => ?_
  simp only [go_sem, Nat.reduceEqDiff, Nat.reduceBEq, Int.reduceToNat, Int.reduceLT, Int.reduceLE, Int.reduceEq, Nat.reduceLeDiff, Nat.reduceLT, Nat.reduceMul, Nat.reduceAdd, String.reduceEq]
  refine TS.seq (TS.of [] fun Q hQ => ?_)
  simp only [go_sem, Nat.reduceEqDiff, Nat.reduceBEq, Int.reduceToNat, Int.reduceLT, Int.reduceLE, Int.reduceEq, Nat.reduceLeDiff, Nat.reduceLT, Nat.reduceMul, Nat.reduceAdd, String.reduceEq]
  refine hQ .normal _ ?_; clear hQ Q
  refine TS.seq (TS.seq (TS.of [] fun Q hQ => ?_))
  simp only [go_sem, Nat.reduceEqDiff, Nat.reduceBEq, Int.reduceToNat, Int.reduceLT, Int.reduceLE, Int.reduceEq, Nat.reduceLeDiff, Nat.reduceLT, Nat.reduceMul, Nat.reduceAdd, String.reduceEq]
  refine hQ .normal _ ?_; clear hQ Q
  refine TS.block (TS.loop (α := Nat) (fun k => [(0, slT l), (1, ii a), (2, ii b), (7, ii k)]) (fun _ => m) (fun k => k ≤ l.length ∧ hasTs a b (l.drop k) = hasTs a b l) (fun k => l.length - k) 0 (by simp) ⟨by simp [Has, upd_apply, argsT], rfl, by simp⟩ ?_)
  rintro k st hH hm ⟨hk, hc⟩
  simp only [Has, List.mem_cons, List.not_mem_nil, or_false, forall_eq_or_imp, forall_eq] at hH; obtain ⟨i0, i1, i2, i7⟩ := hH
  by_cases hlt : k < l.length
  · obtain ⟨x, hx⟩ : ∃ x, l[k]? = some x := ⟨_, List.getElem?_eq_getElem hlt⟩
    have hdr : l.drop k = x :: l.drop (k + 1) := by rw [List.drop_eq_getElem_cons hlt]; congr 1; exact Option.some.inj ((List.getElem?_eq_getElem hlt).symm.trans hx)
    have hat := encTs_at hx
    have hlt7 : k * 7 < (encTs l).length := by rw [encTs_length]; omega
    have hw := wrap_succ hlt (by omega)
    have hszx := szT_at hx
    have hxsz := szT_eq x
    rw [hdr] at hc
    have hb := ih (szt x.b) (by omega) (by omega) x.b (Nat.le_refl _)
    have he := ih (szt x.e) (by omega) (by omega) x.e (Nat.le_refl _)
    rw [hasTs, hasT_eq] at hc
    by_cases c1 : a ≤ x.k
    · by_cases c2 : x.k ≤ b
      · refine TS.of [] fun Q hQ => ?_
        simp only [go_sem, Nat.reduceEqDiff, Nat.reduceBEq, Int.reduceToNat, Int.reduceLT, Int.reduceLE, Int.reduceEq, Nat.reduceLeDiff, Nat.reduceLT, Nat.reduceMul, Nat.reduceAdd, String.reduceEq, i0, i1, i2, i7, hm, hlt, hat, hlt7, eq_true c1, eq_true c2]
        refine hQ .ret _ ?_; exact post_ret _ _ _ rfl rfl (DropW.refl _) ⟨congrArg (fun z => IV.v (Value.bool z)) (hc.symm.trans (by simp [c1, c2])).symm, rfl⟩
      · cases hsb : hasTs a b x.b
        · rw [hsb] at hb hc
          cases hse : hasTs a b x.e
          · rw [hse] at he hc
            refine TS.of [] fun Q hQ => ?_
            simp only [go_sem, Nat.reduceEqDiff, Nat.reduceBEq, Int.reduceToNat, Int.reduceLT, Int.reduceLE, Int.reduceEq, Nat.reduceLeDiff, Nat.reduceLT, Nat.reduceMul, Nat.reduceAdd, String.reduceEq, i0, i1, i2, i7, hm, hlt, hat, hlt7, eq_true c1, eq_false c2]
            refine cal_eq (hb _) ?_
            simp only [go_sem, Nat.reduceEqDiff, Nat.reduceBEq, Int.reduceToNat, Int.reduceLT, Int.reduceLE, Int.reduceEq, Nat.reduceLeDiff, Nat.reduceLT, Nat.reduceMul, Nat.reduceAdd, String.reduceEq, i0, i1, i2, i7, hat, hlt7, hlt, hw, eq_true c1, eq_false c2]
            refine cal_eq (he _) ?_
            simp only [go_sem, Nat.reduceEqDiff, Nat.reduceBEq, Int.reduceToNat, Int.reduceLT, Int.reduceLE, Int.reduceEq, Nat.reduceLeDiff, Nat.reduceLT, Nat.reduceMul, Nat.reduceAdd, String.reduceEq, i0, i1, i2, i7, hat, hlt7, hlt, hw, eq_true c1, eq_false c2]
            refine hQ .normal _ ?_; clear hQ Q
            refine ⟨_, _, k + 1, DropW.refl _, ?_, ⟨hlt, by rw [← hc]; simp [c1, c2]⟩, by omega⟩
            simp [upd_apply, i0, i1, i2, IV.np, np_sh, npTs]
          · rw [hse] at he hc
            refine TS.of [] fun Q hQ => ?_
            simp only [go_sem, Nat.reduceEqDiff, Nat.reduceBEq, Int.reduceToNat, Int.reduceLT, Int.reduceLE, Int.reduceEq, Nat.reduceLeDiff, Nat.reduceLT, Nat.reduceMul, Nat.reduceAdd, String.reduceEq, i0, i1, i2, i7, hm, hlt, hat, hlt7, eq_true c1, eq_false c2]
            refine cal_eq (hb _) ?_
            simp only [go_sem, Nat.reduceEqDiff, Nat.reduceBEq, Int.reduceToNat, Int.reduceLT, Int.reduceLE, Int.reduceEq, Nat.reduceLeDiff, Nat.reduceLT, Nat.reduceMul, Nat.reduceAdd, String.reduceEq, i0, i1, i2, i7, hat, hlt7, hlt, hw, eq_true c1, eq_false c2]
            refine cal_eq (he _) ?_
            simp only [go_sem, Nat.reduceEqDiff, Nat.reduceBEq, Int.reduceToNat, Int.reduceLT, Int.reduceLE, Int.reduceEq, Nat.reduceLeDiff, Nat.reduceLT, Nat.reduceMul, Nat.reduceAdd, String.reduceEq, i0, i1, i2, i7, hat, hlt7, hlt, hw, eq_true c1, eq_false c2]
            refine hQ .ret _ ?_; exact post_ret _ _ _ rfl rfl (DropW.refl _) ⟨congrArg (fun z => IV.v (Value.bool z)) (hc.symm.trans (by simp [c1, c2])).symm, rfl⟩
        · rw [hsb] at hb hc
          refine TS.of [] fun Q hQ => ?_
          simp only [go_sem, Nat.reduceEqDiff, Nat.reduceBEq, Int.reduceToNat, Int.reduceLT, Int.reduceLE, Int.reduceEq, Nat.reduceLeDiff, Nat.reduceLT, Nat.reduceMul, Nat.reduceAdd, String.reduceEq, i0, i1, i2, i7, hm, hlt, hat, hlt7, eq_true c1, eq_false c2]
          refine cal_eq (hb _) ?_
          simp only [go_sem, Nat.reduceEqDiff, Nat.reduceBEq, Int.reduceToNat, Int.reduceLT, Int.reduceLE, Int.reduceEq, Nat.reduceLeDiff, Nat.reduceLT, Nat.reduceMul, Nat.reduceAdd, String.reduceEq, i0, i1, i2, i7, hat, hlt7, hlt, hw, eq_true c1, eq_false c2]
          refine hQ .ret _ ?_; exact post_ret _ _ _ rfl rfl (DropW.refl _) ⟨congrArg (fun z => IV.v (Value.bool z)) (hc.symm.trans (by simp [c1, c2])).symm, rfl⟩
    · cases hsb : hasTs a b x.b
      · rw [hsb] at hb hc
        cases hse : hasTs a b x.e
        · rw [hse] at he hc
          refine TS.of [] fun Q hQ => ?_
          simp only [go_sem, Nat.reduceEqDiff, Nat.reduceBEq, Int.reduceToNat, Int.reduceLT, Int.reduceLE, Int.reduceEq, Nat.reduceLeDiff, Nat.reduceLT, Nat.reduceMul, Nat.reduceAdd, String.reduceEq, i0, i1, i2, i7, hm, hlt, hat, hlt7, eq_false c1]
          refine cal_eq (hb _) ?_
          simp only [go_sem, Nat.reduceEqDiff, Nat.reduceBEq, Int.reduceToNat, Int.reduceLT, Int.reduceLE, Int.reduceEq, Nat.reduceLeDiff, Nat.reduceLT, Nat.reduceMul, Nat.reduceAdd, String.reduceEq, i0, i1, i2, i7, hat, hlt7, hlt, hw, eq_false c1]
          refine cal_eq (he _) ?_
          simp only [go_sem, Nat.reduceEqDiff, Nat.reduceBEq, Int.reduceToNat, Int.reduceLT, Int.reduceLE, Int.reduceEq, Nat.reduceLeDiff, Nat.reduceLT, Nat.reduceMul, Nat.reduceAdd, String.reduceEq, i0, i1, i2, i7, hat, hlt7, hlt, hw, eq_false c1]
          refine hQ .normal _ ?_; clear hQ Q
          refine ⟨_, _, k + 1, DropW.refl _, ?_, ⟨hlt, by rw [← hc]; simp [c1]⟩, by omega⟩
          simp [upd_apply, i0, i1, i2, IV.np, np_sh, npTs]
        · rw [hse] at he hc
          refine TS.of [] fun Q hQ => ?_
          simp only [go_sem, Nat.reduceEqDiff, Nat.reduceBEq, Int.reduceToNat, Int.reduceLT, Int.reduceLE, Int.reduceEq, Nat.reduceLeDiff, Nat.reduceLT, Nat.reduceMul, Nat.reduceAdd, String.reduceEq, i0, i1, i2, i7, hm, hlt, hat, hlt7, eq_false c1]
          refine cal_eq (hb _) ?_
          simp only [go_sem, Nat.reduceEqDiff, Nat.reduceBEq, Int.reduceToNat, Int.reduceLT, Int.reduceLE, Int.reduceEq, Nat.reduceLeDiff, Nat.reduceLT, Nat.reduceMul, Nat.reduceAdd, String.reduceEq, i0, i1, i2, i7, hat, hlt7, hlt, hw, eq_false c1]
          refine cal_eq (he _) ?_
          simp only [go_sem, Nat.reduceEqDiff, Nat.reduceBEq, Int.reduceToNat, Int.reduceLT, Int.reduceLE, Int.reduceEq, Nat.reduceLeDiff, Nat.reduceLT, Nat.reduceMul, Nat.reduceAdd, String.reduceEq, i0, i1, i2, i7, hat, hlt7, hlt, hw, eq_false c1]
          refine hQ .ret _ ?_; exact post_ret _ _ _ rfl rfl (DropW.refl _) ⟨congrArg (fun z => IV.v (Value.bool z)) (hc.symm.trans (by simp [c1])).symm, rfl⟩
      · rw [hsb] at hb hc
        refine TS.of [] fun Q hQ => ?_
        simp only [go_sem, Nat.reduceEqDiff, Nat.reduceBEq, Int.reduceToNat, Int.reduceLT, Int.reduceLE, Int.reduceEq, Nat.reduceLeDiff, Nat.reduceLT, Nat.reduceMul, Nat.reduceAdd, String.reduceEq, i0, i1, i2, i7, hm, hlt, hat, hlt7, eq_false c1]
        refine cal_eq (hb _) ?_
        simp only [go_sem, Nat.reduceEqDiff, Nat.reduceBEq, Int.reduceToNat, Int.reduceLT, Int.reduceLE, Int.reduceEq, Nat.reduceLeDiff, Nat.reduceLT, Nat.reduceMul, Nat.reduceAdd, String.reduceEq, i0, i1, i2, i7, hat, hlt7, hlt, hw, eq_false c1]
        refine hQ .ret _ ?_; exact post_ret _ _ _ rfl rfl (DropW.refl _) ⟨congrArg (fun z => IV.v (Value.bool z)) (hc.symm.trans (by simp [c1])).symm, rfl⟩
  · refine TS.of [] fun Q hQ => ?_
    simp only [go_sem, Nat.reduceEqDiff, Nat.reduceBEq, Int.reduceToNat, Int.reduceLT, Int.reduceLE, Int.reduceEq, Nat.reduceLeDiff, Nat.reduceLT, Nat.reduceMul, Nat.reduceAdd, String.reduceEq, i0, i1, i2, i7, hm, hlt]
    refine hQ (.exit 0) _ ?_; clear hQ Q
    rw [List.drop_eq_nil_of_le (by omega), hasTs] at hc
    refine TS.of [] fun Q hQ => ?_
    simp only [go_sem, Nat.reduceEqDiff, Nat.reduceBEq, Int.reduceToNat, Int.reduceLT, Int.reduceLE, Int.reduceEq, Nat.reduceLeDiff, Nat.reduceLT, Nat.reduceMul, Nat.reduceAdd, String.reduceEq]
    refine hQ .ret _ ?_; exact post_ret _ _ _ rfl rfl (DropW.refl _) ⟨by rw [← hc]; rfl, rfl⟩
set_option maxRecDepth 100000 in
set_option maxHeartbeats 4000000 in
theorem reads_sim : ∀ (N : Nat), N < 900000 → ∀ (l : List Stmt), szt l ≤ N → ∀ m : Mem, Sim 35 [slT l] m (fun r m' => r = bb (readsTs l) ∧ m' = m) := by
  intro N
  induction N using Nat.strongRecOn with
  | ind N ih =>
  intro hB l hN m
  have hll := szt_len l
  refine Sim.ofS 32 [.tmp 2] Try.func35 rfl rfl rfl (by simp) fun wr => ?_
  simp only [go_sem, Nat.reduceEqDiff, Nat.reduceBEq, Int.reduceToNat, Int.reduceLT, Int.reduceLE, Int.reduceEq, Nat.reduceLeDiff, Nat.reduceLT, Nat.reduceMul, Nat.reduceAdd, String.reduceEq]
  refine TS.seq (TS.of [] fun Q hQ => ?_)
  simp only [go_sem, Nat.reduceEqDiff, Nat.reduceBEq, Int.reduceToNat, Int.reduceLT, Int.reduceLE, Int.reduceEq, Nat.reduceLeDiff, Nat.reduceLT, Nat.reduceMul, Nat.reduceAdd, String.reduceEq]
  refine hQ .normal _ ?_; clear hQ Q
  refine TS.seq (TS.seq (TS.of [] fun Q hQ => ?_))
  simp only [go_sem, Nat.reduceEqDiff, Nat.reduceBEq, Int.reduceToNat, Int.reduceLT, Int.reduceLE, Int.reduceEq, Nat.reduceLeDiff, Nat.reduceLT, Nat.reduceMul, Nat.reduceAdd, String.reduceEq]
  refine hQ .normal _ ?_; clear hQ Q
  refine TS.block (TS.loop (α := Nat) (fun k => [(0, slT l), (3, ii k)]) (fun _ => m) (fun k => k ≤ l.length ∧ readsTs (l.drop k) = readsTs l) (fun k => l.length - k) 0 (by simp) ⟨by simp [Has, upd_apply, argsT], rfl, by simp⟩ ?_)
  rintro k st hH hm ⟨hk, hc⟩
  simp only [Has, List.mem_cons, List.not_mem_nil, or_false, forall_eq_or_imp, forall_eq] at hH; obtain ⟨i0, i3⟩ := hH
  by_cases hlt : k < l.length
  · obtain ⟨x, hx⟩ : ∃ x, l[k]? = some x := ⟨_, List.getElem?_eq_getElem hlt⟩
    have hdr : l.drop k = x :: l.drop (k + 1) := by rw [List.drop_eq_getElem_cons hlt]; congr 1; exact Option.some.inj ((List.getElem?_eq_getElem hlt).symm.trans hx)
    have hat := encTs_at hx
    have hlt7 : k * 7 < (encTs l).length := by rw [encTs_length]; omega
    have hw := wrap_succ hlt (by omega)
    have hszx := szT_at hx
    have hxsz := szT_eq x
    rw [hdr] at hc
    have hb := ih (szt x.b) (by omega) (by omega) x.b (Nat.le_refl _)
    have he := ih (szt x.e) (by omega) (by omega) x.e (Nat.le_refl _)
    rw [readsTs, readsT_eq] at hc
    have hcl := fun m => cells_sim m (szs x.x) (by omega) x.x (Nat.le_refl _)
    cases hsc : cells x.x
    · rw [hsc] at hcl hc
      cases hsb : readsTs x.b
      · rw [hsb] at hb hc
        cases hse : readsTs x.e
        · rw [hse] at he hc
          refine TS.of [] fun Q hQ => ?_
          simp only [go_sem, Nat.reduceEqDiff, Nat.reduceBEq, Int.reduceToNat, Int.reduceLT, Int.reduceLE, Int.reduceEq, Nat.reduceLeDiff, Nat.reduceLT, Nat.reduceMul, Nat.reduceAdd, String.reduceEq, i0, i3, hm, hlt, hat, hlt7]
          refine cal_eq (hcl _) ?_
          simp only [go_sem, Nat.reduceEqDiff, Nat.reduceBEq, Int.reduceToNat, Int.reduceLT, Int.reduceLE, Int.reduceEq, Nat.reduceLeDiff, Nat.reduceLT, Nat.reduceMul, Nat.reduceAdd, String.reduceEq, i0, i3, hat, hlt7, hlt, hw]
          refine cal_eq (hb _) ?_
          simp only [go_sem, Nat.reduceEqDiff, Nat.reduceBEq, Int.reduceToNat, Int.reduceLT, Int.reduceLE, Int.reduceEq, Nat.reduceLeDiff, Nat.reduceLT, Nat.reduceMul, Nat.reduceAdd, String.reduceEq, i0, i3, hat, hlt7, hlt, hw]
          refine cal_eq (he _) ?_
          simp only [go_sem, Nat.reduceEqDiff, Nat.reduceBEq, Int.reduceToNat, Int.reduceLT, Int.reduceLE, Int.reduceEq, Nat.reduceLeDiff, Nat.reduceLT, Nat.reduceMul, Nat.reduceAdd, String.reduceEq, i0, i3, hat, hlt7, hlt, hw]
          refine hQ .normal _ ?_; clear hQ Q
          refine ⟨_, _, k + 1, DropW.refl _, ?_, ⟨hlt, by rw [← hc]; simp [true_and]⟩, by omega⟩
          simp [upd_apply, i0, IV.np, np_sh, npTs]
        · rw [hse] at he hc
          refine TS.of [] fun Q hQ => ?_
          simp only [go_sem, Nat.reduceEqDiff, Nat.reduceBEq, Int.reduceToNat, Int.reduceLT, Int.reduceLE, Int.reduceEq, Nat.reduceLeDiff, Nat.reduceLT, Nat.reduceMul, Nat.reduceAdd, String.reduceEq, i0, i3, hm, hlt, hat, hlt7]
          refine cal_eq (hcl _) ?_
          simp only [go_sem, Nat.reduceEqDiff, Nat.reduceBEq, Int.reduceToNat, Int.reduceLT, Int.reduceLE, Int.reduceEq, Nat.reduceLeDiff, Nat.reduceLT, Nat.reduceMul, Nat.reduceAdd, String.reduceEq, i0, i3, hat, hlt7, hlt, hw]
          refine cal_eq (hb _) ?_
          simp only [go_sem, Nat.reduceEqDiff, Nat.reduceBEq, Int.reduceToNat, Int.reduceLT, Int.reduceLE, Int.reduceEq, Nat.reduceLeDiff, Nat.reduceLT, Nat.reduceMul, Nat.reduceAdd, String.reduceEq, i0, i3, hat, hlt7, hlt, hw]
          refine cal_eq (he _) ?_
          simp only [go_sem, Nat.reduceEqDiff, Nat.reduceBEq, Int.reduceToNat, Int.reduceLT, Int.reduceLE, Int.reduceEq, Nat.reduceLeDiff, Nat.reduceLT, Nat.reduceMul, Nat.reduceAdd, String.reduceEq, i0, i3, hat, hlt7, hlt, hw]
          refine hQ .ret _ ?_; exact post_ret _ _ _ rfl rfl (DropW.refl _) ⟨congrArg (fun z => IV.v (Value.bool z)) (hc.symm.trans (by simp [true_and])).symm, rfl⟩
      · rw [hsb] at hb hc
        refine TS.of [] fun Q hQ => ?_
        simp only [go_sem, Nat.reduceEqDiff, Nat.reduceBEq, Int.reduceToNat, Int.reduceLT, Int.reduceLE, Int.reduceEq, Nat.reduceLeDiff, Nat.reduceLT, Nat.reduceMul, Nat.reduceAdd, String.reduceEq, i0, i3, hm, hlt, hat, hlt7]
        refine cal_eq (hcl _) ?_
        simp only [go_sem, Nat.reduceEqDiff, Nat.reduceBEq, Int.reduceToNat, Int.reduceLT, Int.reduceLE, Int.reduceEq, Nat.reduceLeDiff, Nat.reduceLT, Nat.reduceMul, Nat.reduceAdd, String.reduceEq, i0, i3, hat, hlt7, hlt, hw]
        refine cal_eq (hb _) ?_
        simp only [go_sem, Nat.reduceEqDiff, Nat.reduceBEq, Int.reduceToNat, Int.reduceLT, Int.reduceLE, Int.reduceEq, Nat.reduceLeDiff, Nat.reduceLT, Nat.reduceMul, Nat.reduceAdd, String.reduceEq, i0, i3, hat, hlt7, hlt, hw]
        refine hQ .ret _ ?_; exact post_ret _ _ _ rfl rfl (DropW.refl _) ⟨congrArg (fun z => IV.v (Value.bool z)) (hc.symm.trans (by simp [true_and])).symm, rfl⟩
    · rw [hsc] at hcl hc
      refine TS.of [] fun Q hQ => ?_
      simp only [go_sem, Nat.reduceEqDiff, Nat.reduceBEq, Int.reduceToNat, Int.reduceLT, Int.reduceLE, Int.reduceEq, Nat.reduceLeDiff, Nat.reduceLT, Nat.reduceMul, Nat.reduceAdd, String.reduceEq, i0, i3, hm, hlt, hat, hlt7]
      refine cal_eq (hcl _) ?_
      simp only [go_sem, Nat.reduceEqDiff, Nat.reduceBEq, Int.reduceToNat, Int.reduceLT, Int.reduceLE, Int.reduceEq, Nat.reduceLeDiff, Nat.reduceLT, Nat.reduceMul, Nat.reduceAdd, String.reduceEq, i0, i3, hat, hlt7, hlt, hw]
      refine hQ .ret _ ?_; exact post_ret _ _ _ rfl rfl (DropW.refl _) ⟨congrArg (fun z => IV.v (Value.bool z)) (hc.symm.trans (by simp [true_and])).symm, rfl⟩
  · refine TS.of [] fun Q hQ => ?_
    simp only [go_sem, Nat.reduceEqDiff, Nat.reduceBEq, Int.reduceToNat, Int.reduceLT, Int.reduceLE, Int.reduceEq, Nat.reduceLeDiff, Nat.reduceLT, Nat.reduceMul, Nat.reduceAdd, String.reduceEq, i0, i3, hm, hlt]
    refine hQ (.exit 0) _ ?_; clear hQ Q
    rw [List.drop_eq_nil_of_le (by omega), readsTs] at hc
    refine TS.of [] fun Q hQ => ?_
    simp only [go_sem, Nat.reduceEqDiff, Nat.reduceBEq, Int.reduceToNat, Int.reduceLT, Int.reduceLE, Int.reduceEq, Nat.reduceLeDiff, Nat.reduceLT, Nat.reduceMul, Nat.reduceAdd, String.reduceEq]
    refine hQ .ret _ ?_; exact post_ret _ _ _ rfl rfl (DropW.refl _) ⟨by rw [← hc]; rfl, rfl⟩
end Go.Proofs.Ytphjldhdnmoolaa.A
/- The walks of some functions over the abstract machine. -/
namespace Go.Proofs.Ytphjldhdnmoolaa.A
open Go
def faultP (e : Option (Int × Int)) : Int × Int := e.getD (0, 0)
set_option maxRecDepth 100000 in
set_option maxHeartbeats 4000000 in
theorem fault_sim (m : Mem) (e : Option (Int × Int)) : Sim 40 [errI e] m (fun r m' => r = .tup [ii (faultP e).1, ii (faultP e).2] ∧ m' = m) := by
  refine Sim.ofS 27 [.tmp 2, .tmp 3] Try.func40 rfl rfl rfl (by simp) fun wr => ?_
  simp only [go_sem, Nat.reduceEqDiff, Nat.reduceBEq, Int.reduceToNat, Int.reduceLT, Int.reduceLE, Int.reduceEq, Nat.reduceLeDiff, Nat.reduceLT, Nat.reduceMul, Nat.reduceAdd, String.reduceEq]
  cases e with
  | none =>
    refine TS.of [] fun Q hQ => ?_
    simp only [go_sem, Nat.reduceEqDiff, Nat.reduceBEq, Int.reduceToNat, Int.reduceLT, Int.reduceLE, Int.reduceEq, Nat.reduceLeDiff, Nat.reduceLT, Nat.reduceMul, Nat.reduceAdd, String.reduceEq, errI_none]
    refine hQ .ret _ ?_; exact post_ret _ _ _ rfl rfl (DropW.refl _) ⟨rfl, rfl⟩
  | some p =>
    refine TS.of [] fun Q hQ => ?_
    simp only [go_sem, Nat.reduceEqDiff, Nat.reduceBEq, Int.reduceToNat, Int.reduceLT, Int.reduceLE, Int.reduceEq, Nat.reduceLeDiff, Nat.reduceLT, Nat.reduceMul, Nat.reduceAdd, String.reduceEq, errI_some]
    refine drn_of ⟨[22, 26], [], []⟩ [0, 1, 3, 7, 0, 16, 48, 112, 15, 511] (by kernel_rfl) ?_
    simp only [go_sem, Nat.reduceEqDiff, Nat.reduceBEq, Int.reduceToNat, Int.reduceLT, Int.reduceLE, Int.reduceEq, Nat.reduceLeDiff, Nat.reduceLT, Nat.reduceMul, Nat.reduceAdd, String.reduceEq]
    refine hQ .ret _ ?_; exact post_ret _ _ _ rfl rfl (DropW.refl _) ⟨rfl, rfl⟩
set_option maxRecDepth 100000 in
set_option maxHeartbeats 4000000 in
theorem calls_sim (m : Mem) (d : Def) (args : List Int) : Sim 39 [.agg (encD d), .sl .sh args.length (args.map (IV.v <| .int .i64 ·))] m (fun r m' => r = (if args.length = d.params.length then .v .nilIface else .iface 76 (ii 2)) ∧ m' = m) := by
  refine Sim.ofS 12 [.tmp 4] Try.func39 rfl rfl rfl (by simp) fun wr => ?_
  simp only [go_sem, Nat.reduceEqDiff, Nat.reduceBEq, Int.reduceToNat, Int.reduceLT, Int.reduceLE, Int.reduceEq, Nat.reduceLeDiff, Nat.reduceLT, Nat.reduceMul, Nat.reduceAdd, String.reduceEq]
  by_cases h : args.length = d.params.length
  · refine TS.of [2] fun Q hQ => ?_
    simp only [go_sem, Nat.reduceEqDiff, Nat.reduceBEq, Int.reduceToNat, Int.reduceLT, Int.reduceLE, Int.reduceEq, Nat.reduceLeDiff, Nat.reduceLT, Nat.reduceMul, Nat.reduceAdd, String.reduceEq, encD, h]
    refine hQ .ret _ ?_; exact post_ret _ _ _ rfl rfl (DropW.refl _) ⟨by rw [if_pos h]; rfl, rfl⟩
  · have h' : ¬ ((args.length : Int) = (d.params.length : Int)) := by omega
    refine TS.of [2] fun Q hQ => ?_
    simp only [go_sem, Nat.reduceEqDiff, Nat.reduceBEq, Int.reduceToNat, Int.reduceLT, Int.reduceLE, Int.reduceEq, Nat.reduceLeDiff, Nat.reduceLT, Nat.reduceMul, Nat.reduceAdd, String.reduceEq, encD, h']
    refine hQ .ret _ ?_; exact post_ret _ _ _ rfl rfl (DropW.refl _) ⟨by rw [if_neg h]; rfl, rfl⟩
theorem TS_cases {α : Type} {p : Prop} (q : Option α) (h0 : q = none → p) (h1 : ∀ x, q = some x → p) : p := by
  cases q with
  | none => exact h0 rfl
  | some x => exact h1 x rfl
def checkedP (s : Bytes) : Info × Int × Int × Bool := if (parse s).2.1 = 0 then ((check (parse s).1).1, (faultP (check (parse s).1).2).1, (faultP (check (parse s).1).2).2, true) else (Info0, 0, 0, false)
set_option maxRecDepth 100000 in
set_option maxHeartbeats 4000000 in
theorem checked_sim (m : Mem) (s : Bytes) (hs : s.size < 900000) (hd : (parse s).2.1 = 0 → DefOK (parse s).1) : Sim 23 [ss s] m (fun r m' => r = .tup [.agg (encI (checkedP s).1), ii (checkedP s).2.1, ii (checkedP s).2.2.1, bb (checkedP s).2.2.2] ∧ m' = m) := by
  refine Sim.ofS 35 [.cell 2 31, .tmp 3, .tmp 4, .tmp 5] Try.func23 rfl rfl rfl (by simp) fun wr => ?_
  simp only [go_sem, Nat.reduceEqDiff, Nat.reduceBEq, Int.reduceToNat, Int.reduceLT, Int.reduceLE, Int.reduceEq, Nat.reduceLeDiff, Nat.reduceLT, Nat.reduceMul, Nat.reduceAdd, String.reduceEq]
  refine TS.of [] fun Q hQ => ?_
  simp only [go_sem, Nat.reduceEqDiff, Nat.reduceBEq, Int.reduceToNat, Int.reduceLT, Int.reduceLE, Int.reduceEq, Nat.reduceLeDiff, Nat.reduceLT, Nat.reduceMul, Nat.reduceAdd, String.reduceEq]
  refine cal_eq (parse_sim _ s hs) ?_
  by_cases hc : (parse s).2.1 = 0
  · have hgo : checkedP s = ((check (parse s).1).1, (faultP (check (parse s).1).2).1, (faultP (check (parse s).1).2).2, true) := by rw [checkedP, if_pos hc]
    have hsub := fun m => check_sim m (parse s).1 (hd hc)
    simp only [go_sem, Nat.reduceEqDiff, Nat.reduceBEq, Int.reduceToNat, Int.reduceLT, Int.reduceLE, Int.reduceEq, Nat.reduceLeDiff, Nat.reduceLT, Nat.reduceMul, Nat.reduceAdd, String.reduceEq, hc, encD]
    refine cal_eq (hsub _) ?_
    generalize check (parse s).1 = X at hgo
    obtain ⟨i, q⟩ := X
    refine TS_cases q (fun hq => ?_) (fun p hq => ?_)
    all_goals subst hq
    all_goals (simp only [go_sem, Nat.reduceEqDiff, Nat.reduceBEq, Int.reduceToNat, Int.reduceLT, Int.reduceLE, Int.reduceEq, Nat.reduceLeDiff, Nat.reduceLT, Nat.reduceMul, Nat.reduceAdd, String.reduceEq, errI_none, errI_some])
    all_goals first | (refine cal_eq (fault_sim _ none) ?_) | (refine cal_eq (fault_sim _ (some _)) ?_)
    all_goals simp only [go_sem, Nat.reduceEqDiff, Nat.reduceBEq, Int.reduceToNat, Int.reduceLT, Int.reduceLE, Int.reduceEq, Nat.reduceLeDiff, Nat.reduceLT, Nat.reduceMul, Nat.reduceAdd, String.reduceEq]
    all_goals (refine hQ .ret _ ?_; clear hQ Q; refine post_ret _ _ (.tup [.agg (encI i), ii _, ii _, bb true]) ?_ ?_ (DropW.tail0 _ rfl) ⟨by rw [hgo], rfl⟩)
    all_goals first | (simp only [go_sem, Nat.reduceEqDiff, Nat.reduceBEq, Int.reduceToNat, Int.reduceLT, Int.reduceLE, Int.reduceEq, Nat.reduceLeDiff, Nat.reduceLT, Nat.reduceMul, Nat.reduceAdd, String.reduceEq]; done) | (simp [IV.np, npL]; done)
  · have hgo : checkedP s = (Info0, 0, 0, false) := by rw [checkedP, if_neg hc]
    simp only [go_sem, Nat.reduceEqDiff, Nat.reduceBEq, Int.reduceToNat, Int.reduceLT, Int.reduceLE, Int.reduceEq, Nat.reduceLeDiff, Nat.reduceLT, Nat.reduceMul, Nat.reduceAdd, String.reduceEq, hc, encD]
    refine hQ .ret _ ?_; clear hQ Q; refine post_ret _ _ (.tup [.agg (encI Info0), ii 0, ii 0, bb false]) ?_ ?_ (DropW.tail0 _ rfl) ⟨by rw [hgo], rfl⟩
    · simp only [go_sem, Nat.reduceEqDiff, Nat.reduceBEq, Int.reduceToNat, Int.reduceLT, Int.reduceLE, Int.reduceEq, Nat.reduceLeDiff, Nat.reduceLT, Nat.reduceMul, Nat.reduceAdd, String.reduceEq]
    · simp [IV.np, npL]
end Go.Proofs.Ytphjldhdnmoolaa.A
/- maps.Clone at the program's own map type, and its contract over the abstract machine. -/
namespace Go.Proofs.Ytphjldhdnmoolaa.A
open Go Go.RowKit Go.Maps
theorem run_equalIn_map_nil (w : World) (d : Nat) (t k e : TypeId) (p : Option Nat) (h : Try.prog.underlying t = some (.map k e)) :
    (Op.equalIn (d + 1) t (.map p) (.map none)).run Try.prog w = .ok p.isNone w := by
  cases p <;> simp [Op.equalIn, run_underlying h]
theorem run_eql_map_nil (w : World) (t k e : TypeId) (p : Option Nat) (h : Try.prog.underlying t = some (.map k e)) :
    (binOp .eql t (.map p) (.map none)).run Try.prog w = .ok (.bool p.isNone) w := by
  simp only [binOp]
  simp [show Op.equal t (.map p) (.map none) = Op.equalIn (9999 + 1) t (.map p) (.map none) from rfl, run_equalIn_map_nil w 9999 t k e p h]
theorem run_typeAssert_map (w : World) (t xT k e : TypeId) (v : Value) (h : Try.prog.underlying t = some (.map k e)) : (Instr.typeAssert (.iface t v) xT t false).run Try.prog w = .ok v w := by
  simp [Instr.typeAssert, run_underlying h, go_sem, Result.andThen]
theorem run_maps_clone (w : World) {r : Nat} {es : Array MapEntry} {clock : Nat} (t : TypeId) (hb : w.heap[r]? = some (.map es clock)) :
    (Extern.MapsClone.clone #[.iface t (.map (some r))]).run Try.prog w = .ok (.iface t (.map (some w.heap.size))) (w.alloc (.map es clock)) := by
  have e : Extern.MapsClone.clone #[.iface t (.map (some r))] = (getObj r >>= fun o => match o with
      | .map entries clock => (newObj (.map entries clock) >>= fun n => pure (.iface t (.map (some n))))
      | _ => stuck "maps.clone: a map expected") := rfl
  rw [e]
  simp [MapKept.run_getObj_map hb, Result.andThen, go_sem]
set_option maxHeartbeats 4000000 in
set_option maxRecDepth 100000 in
theorem clone_calls (b : Nat) (es : Array MapEntry) (clock : Nat) (w : World) (hb : w.heap[b]? = some (.map es clock)) :
    Calls Try.prog 60 #[.map (some b)] w fun e w' => e = .returned (.map (some w.heap.size)) ∧ w' = w.alloc (.map es clock) := by
  obtain ⟨k, e, t108⟩ : ∃ k e, Try.prog.underlying 108 = some (.map k e) := ⟨_, _, Try.underlying108⟩
  have hq := fun w => run_eql_map_nil w 108 _ _ (some b) t108
  go_enter Try.func60, Try.ntmps60
  go_wp2
  rw [run_callFunc_extern Try.func83 (by kernel_rfl) (by kernel_rfl) (by kernel_rfl) (e := Extern.MapsClone.clone) (by kernel_rfl), run_maps_clone w 108 hb]
  simp only [Result.andThen]
  rw [Oper.upon_value]
  go_wp2
  rw [run_typeAssert_map _ 108 20 _ _ _ t108]
  simp only [Result.andThen]
  rw [Oper.upon_value]
  go_wp2
  go_ret
  exact ⟨rfl, rfl⟩
theorem clone_sim (m : Mem) (o : Nat) (es : Array MapEntry) (c : Nat) (ho : m.objs[o]? = some (.map es c)) : Sim 60 [.map o] m (fun r m' => r = .map m.objs.length ∧ m' = ⟨m.objs ++ [.map es c], m.rows⟩) := by
  intro κ w vs hi hl
  obtain ⟨v, vs', e1, hv, hvs⟩ := hl
  simp only [RelL] at hvs
  subst hvs
  obtain ⟨b, hb, rfl⟩ := hv
  have hvs : vs = #[.map (some b)] := by cases vs; simp_all
  subst hvs
  have hx : w.heap[b]? = some (.map es c) := hi.obj o b _ hb ho
  refine (clone_calls b es c w hx).mono ?_
  rintro e w' ⟨rfl, rfl⟩
  have hr : StRel 0 (wr0 κ w) κ ⟨fun _ => .any, m⟩ ⟨#[], []⟩ w := ⟨hi, rfl, rfl, fun _ => trivial⟩
  obtain ⟨h1, h2⟩ := hr.newObj (.map es c) (.map es c) (fun κ' _ => heap_alloc_new w _)
  refine ⟨_, _, .map m.objs.length, _, rfl, h2, h1.inv, ?_, rfl, rfl⟩
  refine ⟨w.heap.size, ?_, rfl⟩
  rw [← hi.len]; simp
end Go.Proofs.Ytphjldhdnmoolaa.A
/- The walks of some functions over the abstract machine. -/
namespace Go.Proofs.Ytphjldhdnmoolaa.A
open Go
/-! expressions' values, as plain functions -/
structure RS where
  lsn : Int
  cs : List Int
  kn : List Ent
  kc : Nat
abbrev w64 (n : Int) : Int := IntKind.i64.wrap n
def bit (b : Bool) : Int := if b then 1 else 0
def getC (cs : List Int) (i : Int) : Int := if i < 0 ∨ 60 ≤ i then 0 else cs.getD i.toNat 0
def operP (s : Bytes) (a b : Int) : Option Int :=
  if s = qAdd then some (w64 (a + b)) else if s = qSub then some (w64 (a - b)) else if s = qMul then some (w64 (a * b))
  else if s = qDiv then some (if b = 0 then 0 else w64 (a.tdiv b)) else if s = qRem then some (if b = 0 then 0 else a.tmod b)
  else if s = qLt then some (bit (decide (a < b))) else if s = qLe then some (bit (decide (a ≤ b))) else if s = qGt then some (bit (decide (b < a))) else if s = qGe then some (bit (decide (b ≤ a)))
  else if s = qEq then some (bit (decide (a = b))) else if s = qNe then some (bit (!decide (a = b)))
  else if s = qAnd then some (bit (!decide (a = 0) && !decide (b = 0))) else if s = qOr then some (bit (!decide (a = 0) || !decide (b = 0))) else none
def val1 (k n : Int) (s : Bytes) (A : List Int) (rs : RS) : Option Int :=
  if k = 1 ∧ A = [] then some n
  else if k = 2 ∧ A = [] then if s = qTrue ∨ s = qFalse then some (bit (decide (s = qTrue))) else getM s rs.kn
  else match k, A with
    | 3, [a] => some (getC rs.cs a)
    | 4, [a] => some (bit (decide (a = 0)))
    | 5, [a] => some (w64 (0 - a))
    | 6, [a, b] => operP s a b
    | _, _ => none
mutual
def valE : Expr → RS → Option Int
  | .mk k n s a _, rs => (valEs a rs).bind fun A => val1 k n s A rs
def valEs : List Expr → RS → Option (List Int)
  | [], _ => some []
  | e :: l, rs => (valE e rs).bind fun x => (valEs l rs).map fun y => x :: y
end
set_option maxRecDepth 100000 in
set_option maxHeartbeats 4000000 in
theorem bit_sim (m : Mem) (b : Bool) : Sim 84 [bb b] m (fun r m' => r = ii (bit b) ∧ m' = m) := by
  refine Sim.ofS 4 [.tmp 2] Try.func84 rfl rfl rfl (by simp) fun wr => ?_
  simp only [go_sem, Nat.reduceEqDiff, Nat.reduceBEq, Int.reduceToNat, Int.reduceLT, Int.reduceLE, Int.reduceEq, Nat.reduceLeDiff, Nat.reduceLT, Nat.reduceMul, Nat.reduceAdd, String.reduceEq]
  cases b
  all_goals refine TS.of [] fun Q hQ => ?_
  all_goals simp only [go_sem, Nat.reduceEqDiff, Nat.reduceBEq, Int.reduceToNat, Int.reduceLT, Int.reduceLE, Int.reduceEq, Nat.reduceLeDiff, Nat.reduceLT, Nat.reduceMul, Nat.reduceAdd, String.reduceEq]
  all_goals refine hQ .ret _ ?_; exact post_ret _ _ _ rfl rfl (DropW.refl _) ⟨rfl, rfl⟩
def operR (s : Bytes) (a b : Int) : IV := match operP s a b with
  | some n => .tup [ii n, bb true]
  | none => .tup [ii 0, bb false]
theorem oper_ok (s : Bytes) (a b n : Int) (h : operP s a b = some n) : operR s a b = .tup [ii n, bb true] := by unfold operR; rw [h]
theorem oper_no (s : Bytes) (a b : Int) (h : operP s a b = none) : operR s a b = .tup [ii 0, bb false] := by unfold operR; rw [h]
set_option maxRecDepth 100000 in
set_option maxHeartbeats 4000000 in
theorem operate_sim (m : Mem) (s : Bytes) (a b : Int) : Sim 86 [ss s, ii a, ii b] m (fun r m' => r = operR s a b ∧ m' = m) := by
  refine Sim.ofS 92 [.tmp 6, .tmp 7] Try.func86 rfl rfl rfl (by simp) fun wr => ?_
  simp only [go_sem, Nat.reduceEqDiff, Nat.reduceBEq, Int.reduceToNat, Int.reduceLT, Int.reduceLE, Int.reduceEq, Nat.reduceLeDiff, Nat.reduceLT, Nat.reduceMul, Nat.reduceAdd, String.reduceEq]
  by_cases e0 : s = qAdd
  · have d0 : decide (s = ({ data := #[43] } : Bytes)) = true := decide_eq_true e0
    have hv := oper_ok s a b (w64 (a + b)) (by unfold operP; rw [if_pos e0])
    rw [hv]
    refine TS.of [] fun Q hQ => ?_
    simp only [go_sem, Nat.reduceEqDiff, Nat.reduceBEq, Int.reduceToNat, Int.reduceLT, Int.reduceLE, Int.reduceEq, Nat.reduceLeDiff, Nat.reduceLT, Nat.reduceMul, Nat.reduceAdd, String.reduceEq, d0]
    refine hQ .ret _ ?_; exact post_ret _ _ _ rfl rfl (DropW.refl _) ⟨rfl, rfl⟩
  have d0 : decide (s = ({ data := #[43] } : Bytes)) = false := decide_eq_false e0
  by_cases e1 : s = qSub
  · have d1 : decide (s = ({ data := #[45] } : Bytes)) = true := decide_eq_true e1
    have hv := oper_ok s a b (w64 (a - b)) (by unfold operP; rw [if_neg e0, if_pos e1])
    rw [hv]
    refine TS.of [] fun Q hQ => ?_
    simp only [go_sem, Nat.reduceEqDiff, Nat.reduceBEq, Int.reduceToNat, Int.reduceLT, Int.reduceLE, Int.reduceEq, Nat.reduceLeDiff, Nat.reduceLT, Nat.reduceMul, Nat.reduceAdd, String.reduceEq, d0, d1]
    refine hQ .ret _ ?_; exact post_ret _ _ _ rfl rfl (DropW.refl _) ⟨rfl, rfl⟩
  have d1 : decide (s = ({ data := #[45] } : Bytes)) = false := decide_eq_false e1
  by_cases e2 : s = qMul
  · have d2 : decide (s = ({ data := #[42] } : Bytes)) = true := decide_eq_true e2
    have hv := oper_ok s a b (w64 (a * b)) (by unfold operP; rw [if_neg e0, if_neg e1, if_pos e2])
    rw [hv]
    refine TS.of [] fun Q hQ => ?_
    simp only [go_sem, Nat.reduceEqDiff, Nat.reduceBEq, Int.reduceToNat, Int.reduceLT, Int.reduceLE, Int.reduceEq, Nat.reduceLeDiff, Nat.reduceLT, Nat.reduceMul, Nat.reduceAdd, String.reduceEq, d0, d1, d2]
    refine hQ .ret _ ?_; exact post_ret _ _ _ rfl rfl (DropW.refl _) ⟨rfl, rfl⟩
  have d2 : decide (s = ({ data := #[42] } : Bytes)) = false := decide_eq_false e2
  by_cases e3 : s = qDiv
  · have d3 : decide (s = ({ data := #[47] } : Bytes)) = true := decide_eq_true e3
    have hv := oper_ok s a b (if b = 0 then 0 else w64 (a.tdiv b)) (by unfold operP; rw [if_neg e0, if_neg e1, if_neg e2, if_pos e3])
    rw [hv]
    by_cases hb : b = 0
    · refine TS.of [] fun Q hQ => ?_
      simp only [go_sem, Nat.reduceEqDiff, Nat.reduceBEq, Int.reduceToNat, Int.reduceLT, Int.reduceLE, Int.reduceEq, Nat.reduceLeDiff, Nat.reduceLT, Nat.reduceMul, Nat.reduceAdd, String.reduceEq, d0, d1, d2, d3, hb]
      refine hQ .ret _ ?_; exact post_ret _ _ _ rfl rfl (DropW.refl _) ⟨by rw [if_pos hb]; rfl, rfl⟩
    · refine TS.of [] fun Q hQ => ?_
      simp only [go_sem, Nat.reduceEqDiff, Nat.reduceBEq, Int.reduceToNat, Int.reduceLT, Int.reduceLE, Int.reduceEq, Nat.reduceLeDiff, Nat.reduceLT, Nat.reduceMul, Nat.reduceAdd, String.reduceEq, d0, d1, d2, d3, hb]
      refine hQ .ret _ ?_; exact post_ret _ _ _ rfl rfl (DropW.refl _) ⟨by rw [if_neg hb]; rfl, rfl⟩
  have d3 : decide (s = ({ data := #[47] } : Bytes)) = false := decide_eq_false e3
  by_cases e4 : s = qRem
  · have d4 : decide (s = ({ data := #[37] } : Bytes)) = true := decide_eq_true e4
    have hv := oper_ok s a b (if b = 0 then 0 else a.tmod b) (by unfold operP; rw [if_neg e0, if_neg e1, if_neg e2, if_neg e3, if_pos e4])
    rw [hv]
    by_cases hb : b = 0
    · refine TS.of [] fun Q hQ => ?_
      simp only [go_sem, Nat.reduceEqDiff, Nat.reduceBEq, Int.reduceToNat, Int.reduceLT, Int.reduceLE, Int.reduceEq, Nat.reduceLeDiff, Nat.reduceLT, Nat.reduceMul, Nat.reduceAdd, String.reduceEq, d0, d1, d2, d3, d4, hb]
      refine hQ .ret _ ?_; exact post_ret _ _ _ rfl rfl (DropW.refl _) ⟨by rw [if_pos hb]; rfl, rfl⟩
    · refine TS.of [] fun Q hQ => ?_
      simp only [go_sem, Nat.reduceEqDiff, Nat.reduceBEq, Int.reduceToNat, Int.reduceLT, Int.reduceLE, Int.reduceEq, Nat.reduceLeDiff, Nat.reduceLT, Nat.reduceMul, Nat.reduceAdd, String.reduceEq, d0, d1, d2, d3, d4, hb]
      refine hQ .ret _ ?_; exact post_ret _ _ _ rfl rfl (DropW.refl _) ⟨by rw [if_neg hb]; rfl, rfl⟩
  have d4 : decide (s = ({ data := #[37] } : Bytes)) = false := decide_eq_false e4
  by_cases e5 : s = qLt
  · have d5 : decide (s = ({ data := #[60] } : Bytes)) = true := decide_eq_true e5
    have hv := oper_ok s a b (bit (decide (a < b))) (by unfold operP; rw [if_neg e0, if_neg e1, if_neg e2, if_neg e3, if_neg e4, if_pos e5])
    rw [hv]
    refine TS.of [] fun Q hQ => ?_
    simp only [go_sem, Nat.reduceEqDiff, Nat.reduceBEq, Int.reduceToNat, Int.reduceLT, Int.reduceLE, Int.reduceEq, Nat.reduceLeDiff, Nat.reduceLT, Nat.reduceMul, Nat.reduceAdd, String.reduceEq, d0, d1, d2, d3, d4, d5]
    refine cal_eq (bit_sim _ _) ?_
    simp only [go_sem, Nat.reduceEqDiff, Nat.reduceBEq, Int.reduceToNat, Int.reduceLT, Int.reduceLE, Int.reduceEq, Nat.reduceLeDiff, Nat.reduceLT, Nat.reduceMul, Nat.reduceAdd, String.reduceEq]
    refine hQ .ret _ ?_; exact post_ret _ _ _ rfl rfl (DropW.refl _) ⟨rfl, rfl⟩
  have d5 : decide (s = ({ data := #[60] } : Bytes)) = false := decide_eq_false e5
  by_cases e6 : s = qLe
  · have d6 : decide (s = ({ data := #[60, 61] } : Bytes)) = true := decide_eq_true e6
    have hv := oper_ok s a b (bit (decide (a ≤ b))) (by unfold operP; rw [if_neg e0, if_neg e1, if_neg e2, if_neg e3, if_neg e4, if_neg e5, if_pos e6])
    rw [hv]
    refine TS.of [] fun Q hQ => ?_
    simp only [go_sem, Nat.reduceEqDiff, Nat.reduceBEq, Int.reduceToNat, Int.reduceLT, Int.reduceLE, Int.reduceEq, Nat.reduceLeDiff, Nat.reduceLT, Nat.reduceMul, Nat.reduceAdd, String.reduceEq, d0, d1, d2, d3, d4, d5, d6]
    refine cal_eq (bit_sim _ _) ?_
    simp only [go_sem, Nat.reduceEqDiff, Nat.reduceBEq, Int.reduceToNat, Int.reduceLT, Int.reduceLE, Int.reduceEq, Nat.reduceLeDiff, Nat.reduceLT, Nat.reduceMul, Nat.reduceAdd, String.reduceEq]
    refine hQ .ret _ ?_; exact post_ret _ _ _ rfl rfl (DropW.refl _) ⟨rfl, rfl⟩
  have d6 : decide (s = ({ data := #[60, 61] } : Bytes)) = false := decide_eq_false e6
  by_cases e7 : s = qGt
  · have d7 : decide (s = ({ data := #[62] } : Bytes)) = true := decide_eq_true e7
    have hv := oper_ok s a b (bit (decide (b < a))) (by unfold operP; rw [if_neg e0, if_neg e1, if_neg e2, if_neg e3, if_neg e4, if_neg e5, if_neg e6, if_pos e7])
    rw [hv]
    refine TS.of [] fun Q hQ => ?_
    simp only [go_sem, Nat.reduceEqDiff, Nat.reduceBEq, Int.reduceToNat, Int.reduceLT, Int.reduceLE, Int.reduceEq, Nat.reduceLeDiff, Nat.reduceLT, Nat.reduceMul, Nat.reduceAdd, String.reduceEq, d0, d1, d2, d3, d4, d5, d6, d7]
    refine cal_eq (bit_sim _ _) ?_
    simp only [go_sem, Nat.reduceEqDiff, Nat.reduceBEq, Int.reduceToNat, Int.reduceLT, Int.reduceLE, Int.reduceEq, Nat.reduceLeDiff, Nat.reduceLT, Nat.reduceMul, Nat.reduceAdd, String.reduceEq]
    refine hQ .ret _ ?_; exact post_ret _ _ _ rfl rfl (DropW.refl _) ⟨rfl, rfl⟩
  have d7 : decide (s = ({ data := #[62] } : Bytes)) = false := decide_eq_false e7
  by_cases e8 : s = qGe
  · have d8 : decide (s = ({ data := #[62, 61] } : Bytes)) = true := decide_eq_true e8
    have hv := oper_ok s a b (bit (decide (b ≤ a))) (by unfold operP; rw [if_neg e0, if_neg e1, if_neg e2, if_neg e3, if_neg e4, if_neg e5, if_neg e6, if_neg e7, if_pos e8])
    rw [hv]
    refine TS.of [] fun Q hQ => ?_
    simp only [go_sem, Nat.reduceEqDiff, Nat.reduceBEq, Int.reduceToNat, Int.reduceLT, Int.reduceLE, Int.reduceEq, Nat.reduceLeDiff, Nat.reduceLT, Nat.reduceMul, Nat.reduceAdd, String.reduceEq, d0, d1, d2, d3, d4, d5, d6, d7, d8]
    refine cal_eq (bit_sim _ _) ?_
    simp only [go_sem, Nat.reduceEqDiff, Nat.reduceBEq, Int.reduceToNat, Int.reduceLT, Int.reduceLE, Int.reduceEq, Nat.reduceLeDiff, Nat.reduceLT, Nat.reduceMul, Nat.reduceAdd, String.reduceEq]
    refine hQ .ret _ ?_; exact post_ret _ _ _ rfl rfl (DropW.refl _) ⟨rfl, rfl⟩
  have d8 : decide (s = ({ data := #[62, 61] } : Bytes)) = false := decide_eq_false e8
  by_cases e9 : s = qEq
  · have d9 : decide (s = ({ data := #[61, 61] } : Bytes)) = true := decide_eq_true e9
    have hv := oper_ok s a b (bit (decide (a = b))) (by unfold operP; rw [if_neg e0, if_neg e1, if_neg e2, if_neg e3, if_neg e4, if_neg e5, if_neg e6, if_neg e7, if_neg e8, if_pos e9])
    rw [hv]
    refine TS.of [] fun Q hQ => ?_
    simp only [go_sem, Nat.reduceEqDiff, Nat.reduceBEq, Int.reduceToNat, Int.reduceLT, Int.reduceLE, Int.reduceEq, Nat.reduceLeDiff, Nat.reduceLT, Nat.reduceMul, Nat.reduceAdd, String.reduceEq, d0, d1, d2, d3, d4, d5, d6, d7, d8, d9]
    refine cal_eq (bit_sim _ _) ?_
    simp only [go_sem, Nat.reduceEqDiff, Nat.reduceBEq, Int.reduceToNat, Int.reduceLT, Int.reduceLE, Int.reduceEq, Nat.reduceLeDiff, Nat.reduceLT, Nat.reduceMul, Nat.reduceAdd, String.reduceEq]
    refine hQ .ret _ ?_; exact post_ret _ _ _ rfl rfl (DropW.refl _) ⟨rfl, rfl⟩
  have d9 : decide (s = ({ data := #[61, 61] } : Bytes)) = false := decide_eq_false e9
  by_cases e10 : s = qNe
  · have d10 : decide (s = ({ data := #[33, 61] } : Bytes)) = true := decide_eq_true e10
    have hv := oper_ok s a b (bit (!decide (a = b))) (by unfold operP; rw [if_neg e0, if_neg e1, if_neg e2, if_neg e3, if_neg e4, if_neg e5, if_neg e6, if_neg e7, if_neg e8, if_neg e9, if_pos e10])
    rw [hv]
    refine TS.of [] fun Q hQ => ?_
    simp only [go_sem, Nat.reduceEqDiff, Nat.reduceBEq, Int.reduceToNat, Int.reduceLT, Int.reduceLE, Int.reduceEq, Nat.reduceLeDiff, Nat.reduceLT, Nat.reduceMul, Nat.reduceAdd, String.reduceEq, d0, d1, d2, d3, d4, d5, d6, d7, d8, d9, d10]
    refine cal_eq (bit_sim _ _) ?_
    simp only [go_sem, Nat.reduceEqDiff, Nat.reduceBEq, Int.reduceToNat, Int.reduceLT, Int.reduceLE, Int.reduceEq, Nat.reduceLeDiff, Nat.reduceLT, Nat.reduceMul, Nat.reduceAdd, String.reduceEq]
    refine hQ .ret _ ?_; exact post_ret _ _ _ rfl rfl (DropW.refl _) ⟨rfl, rfl⟩
  have d10 : decide (s = ({ data := #[33, 61] } : Bytes)) = false := decide_eq_false e10
  by_cases e11 : s = qAnd
  · have d11 : decide (s = ({ data := #[38, 38] } : Bytes)) = true := decide_eq_true e11
    have hv := oper_ok s a b (bit (!decide (a = 0) && !decide (b = 0))) (by unfold operP; rw [if_neg e0, if_neg e1, if_neg e2, if_neg e3, if_neg e4, if_neg e5, if_neg e6, if_neg e7, if_neg e8, if_neg e9, if_neg e10, if_pos e11])
    by_cases ha : a = 0
    · by_cases hb : b = 0
      · rw [hv, show (!decide (a = 0) && !decide (b = 0)) = false from by simp [ha, hb]]
        refine TS.of [] fun Q hQ => ?_
        simp only [go_sem, Nat.reduceEqDiff, Nat.reduceBEq, Int.reduceToNat, Int.reduceLT, Int.reduceLE, Int.reduceEq, Nat.reduceLeDiff, Nat.reduceLT, Nat.reduceMul, Nat.reduceAdd, String.reduceEq, d0, d1, d2, d3, d4, d5, d6, d7, d8, d9, d10, d11, ha, hb]
        refine cal_eq (bit_sim _ _) ?_
        simp only [go_sem, Nat.reduceEqDiff, Nat.reduceBEq, Int.reduceToNat, Int.reduceLT, Int.reduceLE, Int.reduceEq, Nat.reduceLeDiff, Nat.reduceLT, Nat.reduceMul, Nat.reduceAdd, String.reduceEq]
        refine hQ .ret _ ?_; exact post_ret _ _ _ rfl rfl (DropW.refl _) ⟨rfl, rfl⟩
      · rw [hv, show (!decide (a = 0) && !decide (b = 0)) = false from by simp [ha, hb]]
        refine TS.of [] fun Q hQ => ?_
        simp only [go_sem, Nat.reduceEqDiff, Nat.reduceBEq, Int.reduceToNat, Int.reduceLT, Int.reduceLE, Int.reduceEq, Nat.reduceLeDiff, Nat.reduceLT, Nat.reduceMul, Nat.reduceAdd, String.reduceEq, d0, d1, d2, d3, d4, d5, d6, d7, d8, d9, d10, d11, ha, hb]
        refine cal_eq (bit_sim _ _) ?_
        simp only [go_sem, Nat.reduceEqDiff, Nat.reduceBEq, Int.reduceToNat, Int.reduceLT, Int.reduceLE, Int.reduceEq, Nat.reduceLeDiff, Nat.reduceLT, Nat.reduceMul, Nat.reduceAdd, String.reduceEq]
        refine hQ .ret _ ?_; exact post_ret _ _ _ rfl rfl (DropW.refl _) ⟨rfl, rfl⟩
    · by_cases hb : b = 0
      · rw [hv, show (!decide (a = 0) && !decide (b = 0)) = false from by simp [ha, hb]]
        refine TS.of [] fun Q hQ => ?_
        simp only [go_sem, Nat.reduceEqDiff, Nat.reduceBEq, Int.reduceToNat, Int.reduceLT, Int.reduceLE, Int.reduceEq, Nat.reduceLeDiff, Nat.reduceLT, Nat.reduceMul, Nat.reduceAdd, String.reduceEq, d0, d1, d2, d3, d4, d5, d6, d7, d8, d9, d10, d11, ha, hb]
        refine cal_eq (bit_sim _ _) ?_
        simp only [go_sem, Nat.reduceEqDiff, Nat.reduceBEq, Int.reduceToNat, Int.reduceLT, Int.reduceLE, Int.reduceEq, Nat.reduceLeDiff, Nat.reduceLT, Nat.reduceMul, Nat.reduceAdd, String.reduceEq]
        refine hQ .ret _ ?_; exact post_ret _ _ _ rfl rfl (DropW.refl _) ⟨rfl, rfl⟩
      · rw [hv, show (!decide (a = 0) && !decide (b = 0)) = true from by simp [ha, hb]]
        refine TS.of [] fun Q hQ => ?_
        simp only [go_sem, Nat.reduceEqDiff, Nat.reduceBEq, Int.reduceToNat, Int.reduceLT, Int.reduceLE, Int.reduceEq, Nat.reduceLeDiff, Nat.reduceLT, Nat.reduceMul, Nat.reduceAdd, String.reduceEq, d0, d1, d2, d3, d4, d5, d6, d7, d8, d9, d10, d11, ha, hb]
        refine cal_eq (bit_sim _ _) ?_
        simp only [go_sem, Nat.reduceEqDiff, Nat.reduceBEq, Int.reduceToNat, Int.reduceLT, Int.reduceLE, Int.reduceEq, Nat.reduceLeDiff, Nat.reduceLT, Nat.reduceMul, Nat.reduceAdd, String.reduceEq]
        refine hQ .ret _ ?_; exact post_ret _ _ _ rfl rfl (DropW.refl _) ⟨rfl, rfl⟩
  have d11 : decide (s = ({ data := #[38, 38] } : Bytes)) = false := decide_eq_false e11
  by_cases e12 : s = qOr
  · have d12 : decide (s = ({ data := #[124, 124] } : Bytes)) = true := decide_eq_true e12
    have hv := oper_ok s a b (bit (!decide (a = 0) || !decide (b = 0))) (by unfold operP; rw [if_neg e0, if_neg e1, if_neg e2, if_neg e3, if_neg e4, if_neg e5, if_neg e6, if_neg e7, if_neg e8, if_neg e9, if_neg e10, if_neg e11, if_pos e12])
    by_cases ha : a = 0
    · by_cases hb : b = 0
      · rw [hv, show (!decide (a = 0) || !decide (b = 0)) = false from by simp [ha, hb]]
        refine TS.of [] fun Q hQ => ?_
        simp only [go_sem, Nat.reduceEqDiff, Nat.reduceBEq, Int.reduceToNat, Int.reduceLT, Int.reduceLE, Int.reduceEq, Nat.reduceLeDiff, Nat.reduceLT, Nat.reduceMul, Nat.reduceAdd, String.reduceEq, d0, d1, d2, d3, d4, d5, d6, d7, d8, d9, d10, d11, d12, ha, hb]
        refine cal_eq (bit_sim _ _) ?_
        simp only [go_sem, Nat.reduceEqDiff, Nat.reduceBEq, Int.reduceToNat, Int.reduceLT, Int.reduceLE, Int.reduceEq, Nat.reduceLeDiff, Nat.reduceLT, Nat.reduceMul, Nat.reduceAdd, String.reduceEq]
        refine hQ .ret _ ?_; exact post_ret _ _ _ rfl rfl (DropW.refl _) ⟨rfl, rfl⟩
      · rw [hv, show (!decide (a = 0) || !decide (b = 0)) = true from by simp [ha, hb]]
        refine TS.of [] fun Q hQ => ?_
        simp only [go_sem, Nat.reduceEqDiff, Nat.reduceBEq, Int.reduceToNat, Int.reduceLT, Int.reduceLE, Int.reduceEq, Nat.reduceLeDiff, Nat.reduceLT, Nat.reduceMul, Nat.reduceAdd, String.reduceEq, d0, d1, d2, d3, d4, d5, d6, d7, d8, d9, d10, d11, d12, ha, hb]
        refine cal_eq (bit_sim _ _) ?_
        simp only [go_sem, Nat.reduceEqDiff, Nat.reduceBEq, Int.reduceToNat, Int.reduceLT, Int.reduceLE, Int.reduceEq, Nat.reduceLeDiff, Nat.reduceLT, Nat.reduceMul, Nat.reduceAdd, String.reduceEq]
        refine hQ .ret _ ?_; exact post_ret _ _ _ rfl rfl (DropW.refl _) ⟨rfl, rfl⟩
    · by_cases hb : b = 0
      · rw [hv, show (!decide (a = 0) || !decide (b = 0)) = true from by simp [ha, hb]]
        refine TS.of [] fun Q hQ => ?_
        simp only [go_sem, Nat.reduceEqDiff, Nat.reduceBEq, Int.reduceToNat, Int.reduceLT, Int.reduceLE, Int.reduceEq, Nat.reduceLeDiff, Nat.reduceLT, Nat.reduceMul, Nat.reduceAdd, String.reduceEq, d0, d1, d2, d3, d4, d5, d6, d7, d8, d9, d10, d11, d12, ha, hb]
        refine cal_eq (bit_sim _ _) ?_
        simp only [go_sem, Nat.reduceEqDiff, Nat.reduceBEq, Int.reduceToNat, Int.reduceLT, Int.reduceLE, Int.reduceEq, Nat.reduceLeDiff, Nat.reduceLT, Nat.reduceMul, Nat.reduceAdd, String.reduceEq]
        refine hQ .ret _ ?_; exact post_ret _ _ _ rfl rfl (DropW.refl _) ⟨rfl, rfl⟩
      · rw [hv, show (!decide (a = 0) || !decide (b = 0)) = true from by simp [ha, hb]]
        refine TS.of [] fun Q hQ => ?_
        simp only [go_sem, Nat.reduceEqDiff, Nat.reduceBEq, Int.reduceToNat, Int.reduceLT, Int.reduceLE, Int.reduceEq, Nat.reduceLeDiff, Nat.reduceLT, Nat.reduceMul, Nat.reduceAdd, String.reduceEq, d0, d1, d2, d3, d4, d5, d6, d7, d8, d9, d10, d11, d12, ha, hb]
        refine cal_eq (bit_sim _ _) ?_
        simp only [go_sem, Nat.reduceEqDiff, Nat.reduceBEq, Int.reduceToNat, Int.reduceLT, Int.reduceLE, Int.reduceEq, Nat.reduceLeDiff, Nat.reduceLT, Nat.reduceMul, Nat.reduceAdd, String.reduceEq]
        refine hQ .ret _ ?_; exact post_ret _ _ _ rfl rfl (DropW.refl _) ⟨rfl, rfl⟩
  have d12 : decide (s = ({ data := #[124, 124] } : Bytes)) = false := decide_eq_false e12
  rw [oper_no s a b (by unfold operP; rw [if_neg e0, if_neg e1, if_neg e2, if_neg e3, if_neg e4, if_neg e5, if_neg e6, if_neg e7, if_neg e8, if_neg e9, if_neg e10, if_neg e11, if_neg e12])]
  refine TS.of [] fun Q hQ => ?_
  simp only [go_sem, Nat.reduceEqDiff, Nat.reduceBEq, Int.reduceToNat, Int.reduceLT, Int.reduceLE, Int.reduceEq, Nat.reduceLeDiff, Nat.reduceLT, Nat.reduceMul, Nat.reduceAdd, String.reduceEq, d0, d1, d2, d3, d4, d5, d6, d7, d8, d9, d10, d11, d12]
  refine hQ .ret _ ?_; exact post_ret _ _ _ rfl rfl (DropW.refl _) ⟨rfl, rfl⟩
abbrev pgI (lsn : Int) (cs : List Int) : List IV := ii lsn :: cs.map (IV.v <| .int .i64 ·)
theorem drop_cells {cs : List Int} {i : Int} (h0 : 0 ≤ i) (h1 : i < 60) (hl : cs.length = 60) (t : List IV) : ((cs.map (IV.v <| .int .i64 ·)) ++ t).drop i.toNat = ii (getC cs i) :: ((cs.map (IV.v <| .int .i64 ·)) ++ t).drop (i.toNat + 1) := by
  have hi : i.toNat < cs.length := by omega
  rw [List.drop_eq_getElem_cons (by simp; omega)]
  congr 1
  rw [List.getElem_append_left (by simpa using hi)]
  simp only [List.getElem_map, getC]
  rw [if_neg (by omega), List.getD_eq_getElem?_getD, List.getElem?_eq_getElem hi]; rfl
theorem ints_one (l : List Int) : (l.map (IV.v <| .int .i64 ·)).all IV.one = true := by simp [IV.one, Value.oneCell']
theorem ints_sh (l : List Int) : (l.map (IV.v <| .int .i64 ·)).map IV.sh = l.map (IV.v <| .int .i64 ·) := by simp [IV.sh]
theorem ints_ints : ∀ l : List Int, ints (l.map (IV.v <| .int .i64 ·)) = some l
  | [] => rfl
  | a :: l => by rw [List.map_cons]; simp only [ints]; rw [ints_ints l]; rfl
set_option maxRecDepth 100000 in
set_option maxHeartbeats 4000000 in
theorem get_sim (m : Mem) (lsn : Int) (cs : List Int) (hl : cs.length = 60) (i : Int) : Sim 85 [.agg (pgI lsn cs), ii i] m (fun r m' => r = .tup [ii (getC cs i), bb (decide (0 ≤ i ∧ i < 60))] ∧ m' = m) := by
  refine Sim.ofS 16 [.tmp 4, .tmp 5] Try.func85 rfl rfl rfl (by simp) fun wr => ?_
  simp only [go_sem, Nat.reduceEqDiff, Nat.reduceBEq, Int.reduceToNat, Int.reduceLT, Int.reduceLE, Int.reduceEq, Nat.reduceLeDiff, Nat.reduceLT, Nat.reduceMul, Nat.reduceAdd, String.reduceEq]
  by_cases h0 : i < 0
  · refine TS.of [2] fun Q hQ => ?_
    simp only [go_sem, Nat.reduceEqDiff, Nat.reduceBEq, Int.reduceToNat, Int.reduceLT, Int.reduceLE, Int.reduceEq, Nat.reduceLeDiff, Nat.reduceLT, Nat.reduceMul, Nat.reduceAdd, String.reduceEq, h0, ints_one, ints_sh]
    refine hQ .ret _ ?_; exact post_ret _ _ _ rfl rfl (DropW.refl _) ⟨by rw [getC, if_pos (.inl h0), decide_eq_false (by omega)]; rfl, rfl⟩
  · by_cases h1 : 60 ≤ i
    · refine TS.of [2] fun Q hQ => ?_
      simp only [go_sem, Nat.reduceEqDiff, Nat.reduceBEq, Int.reduceToNat, Int.reduceLT, Int.reduceLE, Int.reduceEq, Nat.reduceLeDiff, Nat.reduceLT, Nat.reduceMul, Nat.reduceAdd, String.reduceEq, h0, h1, ints_one, ints_sh]
      refine hQ .ret _ ?_; exact post_ret _ _ _ rfl rfl (DropW.refl _) ⟨by rw [getC, if_pos (.inr h1), decide_eq_false (by omega)]; rfl, rfl⟩
    · have hd := drop_cells (i := i) (by omega) (by omega) hl ([] : List IV)
      rw [List.append_nil] at hd
      refine TS.of [2] fun Q hQ => ?_
      simp only [go_sem, Nat.reduceEqDiff, Nat.reduceBEq, Int.reduceToNat, Int.reduceLT, Int.reduceLE, Int.reduceEq, Nat.reduceLeDiff, Nat.reduceLT, Nat.reduceMul, Nat.reduceAdd, String.reduceEq, h0, h1, ints_one, ints_sh, show (0 : Int) ≤ i by omega, show i < 60 by omega, hd]
      refine hQ .ret _ ?_; exact post_ret _ _ _ rfl rfl (DropW.refl _) ⟨by rw [decide_eq_true (by omega)]; rfl, rfl⟩
abbrev cellsR (o : Nat) (rs : RS) : List IV := ii rs.lsn :: (rs.cs.map (IV.v <| .int .i64 ·) ++ [.map o, .v .nilIface])
abbrev RM (B : List IObj) (rs : RS) (R : List IObj) : List IObj := B ++ (.map (encM rs.kn) rs.kc :: .cells (cellsR B.length rs) :: R)
def SimR (f : FuncId) (args : List IV) (rs : RS) (r : IV) (rs' : RS) : Prop := ∀ (B R : List IObj) (rw_ : List Nat), Sim f (.ptr (B.length + 1) 0 :: args) ⟨RM B rs R, rw_⟩ (fun x m' => x = r ∧ m' = ⟨RM B rs' R, rw_⟩)
set_option maxRecDepth 100000 in
set_option maxHeartbeats 4000000 in
theorem rcell_sim (m : Mem) (o : Nat) (ho : o < m.objs.length) (i : Int) : Sim 100 [.ptr o 0, ii i] m (fun r m' => r = (if i < 0 ∨ 60 ≤ i then .v (.pointer none) else .ptr o (1 + i.toNat)) ∧ m' = m) := by
  refine Sim.ofS 17 [.tmp 4] Try.func100 rfl rfl rfl (by simp) fun wr => ?_
  simp only [go_sem, Nat.reduceEqDiff, Nat.reduceBEq, Int.reduceToNat, Int.reduceLT, Int.reduceLE, Int.reduceEq, Nat.reduceLeDiff, Nat.reduceLT, Nat.reduceMul, Nat.reduceAdd, String.reduceEq]
  by_cases h0 : i < 0
  · refine TS.of [] fun Q hQ => ?_
    simp only [go_sem, Nat.reduceEqDiff, Nat.reduceBEq, Int.reduceToNat, Int.reduceLT, Int.reduceLE, Int.reduceEq, Nat.reduceLeDiff, Nat.reduceLT, Nat.reduceMul, Nat.reduceAdd, String.reduceEq, h0]
    refine hQ .ret _ ?_; exact post_ret _ _ _ rfl rfl (DropW.refl _) ⟨by rw [if_pos (.inl h0)]; rfl, rfl⟩
  · by_cases h1 : 60 ≤ i
    · refine TS.of [] fun Q hQ => ?_
      simp only [go_sem, Nat.reduceEqDiff, Nat.reduceBEq, Int.reduceToNat, Int.reduceLT, Int.reduceLE, Int.reduceEq, Nat.reduceLeDiff, Nat.reduceLT, Nat.reduceMul, Nat.reduceAdd, String.reduceEq, h0, h1]
      refine hQ .ret _ ?_; exact post_ret _ _ _ rfl rfl (DropW.refl _) ⟨by rw [if_pos (.inr h1)]; rfl, rfl⟩
    · refine TS.of [] fun Q hQ => ?_
      simp only [go_sem, Nat.reduceEqDiff, Nat.reduceBEq, Int.reduceToNat, Int.reduceLT, Int.reduceLE, Int.reduceEq, Nat.reduceLeDiff, Nat.reduceLT, Nat.reduceMul, Nat.reduceAdd, String.reduceEq, h0, h1, show (0 : Int) ≤ i by omega, show i < 60 by omega]
      refine hQ .ret _ ?_; refine post_ret _ _ (.ptr o (1 + i.toNat)) ?_ ?_ (DropW.refl _) ⟨by rw [if_neg (by omega)], rfl⟩
      · simp only [go_sem, Nat.reduceEqDiff, Nat.reduceBEq, Int.reduceToNat, Int.reduceLT, Int.reduceLE, Int.reduceEq, Nat.reduceLeDiff, Nat.reduceLT, Nat.reduceMul, Nat.reduceAdd, String.reduceEq]
      · simp [IV.np, ho]
end Go.Proofs.Ytphjldhdnmoolaa.A
/- The walks of some functions over the abstract machine. -/
namespace Go.Proofs.Ytphjldhdnmoolaa.A
open Go
/-! eval's value -/
theorem valEs_at {rs : RS} : ∀ (l : List Expr) (A : List Int), valEs l rs = some A → A.length = l.length ∧ ∀ (k : Nat) (x : Expr), l[k]? = some x → ∃ v, A[k]? = some v ∧ valE x rs = some v
  | [], A, h => by simp only [valEs, Option.some.injEq] at h; subst h; exact ⟨rfl, fun k x hx => by simp at hx⟩
  | e :: l, A, h => by
    simp only [valEs, Option.bind_eq_some_iff, Option.map_eq_some_iff] at h
    obtain ⟨x, hx, y, hy, rfl⟩ := h
    obtain ⟨h1, h2⟩ := valEs_at l y hy
    refine ⟨by simp [h1], fun k z hz => ?_⟩
    cases k with
    | zero => simp at hz; subst hz; exact ⟨x, rfl, hx⟩
    | succ k => simp at hz; simpa using h2 k z hz
abbrev slA (r0 : Nat) (A : List Int) : IV := .sl (accK r0 3 A.length) A.length (A.map (IV.v <| .int .i64 ·))
theorem drop61 {cs : List Int} (h : cs.length = 60) (t : List IV) : (cs.map (IV.v <| .int .i64 ·) ++ t).drop 60 = t := by rw [List.drop_append_of_le_length (by simp [h])]; simp [List.drop_eq_nil_of_le, h]
theorem drop62 {cs : List Int} (h : cs.length = 60) (a : IV) (t : List IV) : (cs.map (IV.v <| .int .i64 ·) ++ a :: t).drop 61 = t := by
  have := drop61 h (a :: t)
  rw [show (61 : Nat) = 60 + 1 from rfl, ← List.drop_drop, this]; rfl
theorem take61 {cs : List Int} (h : cs.length = 60) (t : List IV) : (cs.map (IV.v <| .int .i64 ·) ++ t).take 60 = cs.map (IV.v <| .int .i64 ·) := by rw [List.take_append_of_le_length (by simp [h]), List.take_of_length_le (by simp [h])]
theorem np_ints (no nr : Nat) : ∀ l : List Int, npL no nr (l.map (IV.v <| .int .i64 ·)) = true
  | [] => rfl
  | a :: l => by rw [List.map_cons, npL, np_ints no nr l]; rfl
def VC (N : Nat) : Prop := ∀ (e : Expr) (rs : RS) (v : Int), szE e ≤ N → rs.cs.length = 60 → valE e rs = some v → ∀ (B R : List IObj) (rw_ : List Nat), Sim 61 [.ptr (B.length + 1) 0, .agg (encE e)] ⟨RM B rs R, rw_⟩ (fun x m' => x = ii v ∧ m' = ⟨RM B rs R, rw_⟩)
def rowsA (r : List Nat) (n : Nat) : List Nat := if n = 0 then r else r ++ [n]
theorem app_rowsA (r : List Nat) (e : TypeId) (n k : Nat) (hk : k ≠ 0) : app (rowsA r n) e n k (accK r.length e n) = some (accK r.length e (n + k), rowsA r (n + k)) := acc_app ⟨[], r⟩ e n k hk
theorem rowsA_0 (r : List Nat) : rowsA r 0 = r := rfl
theorem rowsA_le (r : List Nat) (n k : Nat) : (rowsA r n).length ≤ (rowsA r (n + k)).length := accM_len ⟨[], r⟩ n k
theorem rowsA_app (r : List Nat) (n : Nat) : ∃ x, rowsA r n = r ++ x := ⟨if n = 0 then [] else [n], by unfold rowsA; split <;> simp⟩
theorem accK_rowsA {r : List Nat} {n : Nat} {e : TypeId} : (accK r.length e n).np (rowsA r n).length = true := accK_np ⟨[], r⟩ e n
theorem DropW.rowsA {objs : List IObj} (r : List Nat) (n : Nat) : DropW ⟨objs, r⟩ objs.length r.length ⟨objs, rowsA r n⟩ ⟨objs, r⟩ := by
  obtain ⟨x, hx⟩ := rowsA_app r n
  exact DropW.rows_ (m := ⟨objs, r⟩) x rfl hx
theorem DropW.accR (m : Mem) (n : Nat) : DropW m m.objs.length m.rows.length ⟨m.objs, (accM m n).rows⟩ m := by
  refine DropW.rows_ (if n = 0 then [] else [n]) rfl ?_
  unfold accM; dsimp only; split <;> simp
set_option maxRecDepth 100000 in
set_option maxHeartbeats 4000000 in
theorem value_step {N : Nat} (hNb : N < 900000) (ih : ∀ M, M < N → VC M) : VC N := by
  intro e rs v hN h60 hv B R rw_
  have hsz := szE_eq e
  have hll := szs_len e.a
  rw [show e = .mk e.k e.n e.s e.a e.p by cases e; rfl, valE, Option.bind_eq_some_iff] at hv
  obtain ⟨A, hA, hv⟩ := hv
  obtain ⟨hAl, hAt⟩ := valEs_at _ _ hA
  have d61 := fun t => drop61 h60 t
  have d62 := fun a t => drop62 h60 a t
  refine Sim.ofS 146 [.tmp 4] Try.func61 rfl rfl rfl (by simp) fun wr => ?_
  simp only [go_sem, Nat.reduceEqDiff, Nat.reduceBEq, Int.reduceToNat, Int.reduceLT, Int.reduceLE, Int.reduceEq, Nat.reduceLeDiff, Nat.reduceLT, Nat.reduceMul, Nat.reduceAdd, String.reduceEq]
  refine TS.seq (TS.of [3] fun Q hQ => ?_)
  simp only [go_sem, Nat.reduceEqDiff, Nat.reduceBEq, Int.reduceToNat, Int.reduceLT, Int.reduceLE, Int.reduceEq, Nat.reduceLeDiff, Nat.reduceLT, Nat.reduceMul, Nat.reduceAdd, String.reduceEq, encE_eq]
  refine hQ .normal _ ?_; clear hQ Q
  refine TS.seq (TS.of [3] fun Q hQ => ?_)
  simp only [go_sem, Nat.reduceEqDiff, Nat.reduceBEq, Int.reduceToNat, Int.reduceLT, Int.reduceLE, Int.reduceEq, Nat.reduceLeDiff, Nat.reduceLT, Nat.reduceMul, Nat.reduceAdd, String.reduceEq, d61, d62]
  refine hQ .normal _ ?_; clear hQ Q
  refine TS.seq (TS.of [3] fun Q hQ => ?_)
  simp only [go_sem, Nat.reduceEqDiff, Nat.reduceBEq, Int.reduceToNat, Int.reduceLT, Int.reduceLE, Int.reduceEq, Nat.reduceLeDiff, Nat.reduceLT, Nat.reduceMul, Nat.reduceAdd, String.reduceEq]
  refine hQ .normal _ ?_; clear hQ Q
  refine TS.seq (TS.mono (Q := fun e1 s => e1 = .normal ∧ (s.t 0 = .ptr (B.length + 1) 0 ∧ s.t 3 = .ref (encE e) ∧ s.t 5 = slA rw_.length A) ∧ s.m = ⟨RM B rs R, rowsA rw_ A.length⟩) ?_ ?_)
  · refine TS.seq (TS.of [3] fun Q hQ => ?_)
    simp only [go_sem, Nat.reduceEqDiff, Nat.reduceBEq, Int.reduceToNat, Int.reduceLT, Int.reduceLE, Int.reduceEq, Nat.reduceLeDiff, Nat.reduceLT, Nat.reduceMul, Nat.reduceAdd, String.reduceEq, encE_eq]
    refine hQ .normal _ ?_; clear hQ Q
    refine TS.block (TS.loop (α := Nat) (fun k => [(0, .ptr (B.length + 1) 0), (3, .ref (encE e)), (5, slA rw_.length (A.take k)), (16, slE e.a), (17, ii e.a.length), (18, ii k)]) (fun k => ⟨RM B rs R, rowsA rw_ k⟩) (fun k => k ≤ e.a.length) (fun k => e.a.length - k) 0 (by simp) ⟨by simp [Has, upd_apply, argsT, encE_eq, accK], rfl, by omega⟩ ?_)
    rintro k st hH hm hk
    simp only [Has, List.mem_cons, List.not_mem_nil, or_false, forall_eq_or_imp, forall_eq] at hH; obtain ⟨i0, i3, i5, i16, i17, i18⟩ := hH
    by_cases hlt : k < e.a.length
    · obtain ⟨x, hx⟩ : ∃ x, e.a[k]? = some x := ⟨_, List.getElem?_eq_getElem hlt⟩
      obtain ⟨vx, hvx, hval⟩ := hAt k x hx
      have hat := encEs_at hx
      have hlt5 : k * 5 < (encEs e.a).length := by rw [encEs_length]; omega
      have hw := wrap_succ hlt (by omega)
      have hszx := szE_at hx
      have hsub := ih (szE x) (by omega) x rs vx (Nat.le_refl _) h60 hval B (R ++ [.cells (encE x)]) (rowsA rw_ k)
      rw [encE_eq] at hsub
      have htk : (A.take k).length = k := by rw [List.length_take]; omega
      have htk1 : A.take (k + 1) = A.take k ++ [vx] := by rw [List.take_add_one, hvx]; rfl
      have happ := app_rowsA rw_ 3 k 1 (by decide)
      have hlen : ((A.take k).map (IV.v <| .int .i64 ·)).length = k := by rw [List.length_map, htk]
      have hbound : (k + 1) * 8 ≤ 140737488355328 := by omega
      rw [slA, htk] at i5
      refine TS.of [3] fun Q hQ => ?_
      simp only [go_sem, Nat.reduceEqDiff, Nat.reduceBEq, Int.reduceToNat, Int.reduceLT, Int.reduceLE, Int.reduceEq, Nat.reduceLeDiff, Nat.reduceLT, Nat.reduceMul, Nat.reduceAdd, String.reduceEq, i0, i3, i5, i16, i17, i18, hm, hlt, hat, hlt5]
      refine cal_eq hsub ?_
      simp only [go_sem, Nat.reduceEqDiff, Nat.reduceBEq, Int.reduceToNat, Int.reduceLT, Int.reduceLE, Int.reduceEq, Nat.reduceLeDiff, Nat.reduceLT, Nat.reduceMul, Nat.reduceAdd, String.reduceEq, i0, i3, i5, i16, i17, i18, hw, happ, hlen, hbound]
      refine hQ .normal _ ?_; clear hQ Q
      refine ⟨(RM B rs R).length, (rowsA rw_ (k + 1)).length, k + 1, ?_, ?_, hlt, by omega⟩
      · exact DropW.acc (m0 := ⟨RM B rs R, rowsA rw_ k⟩) (m1 := ⟨RM B rs R, rowsA rw_ (k + 1)⟩) [.cells (encE x)] (by simp [encE_eq]) rfl rfl (rowsA_le rw_ k 1)
      · simp [upd_apply, i0, i3, i16, i17, slA, htk1, htk, IV.np, np_sh, npEs, IV.sh, npL_app, np_ints, npL, accK_rowsA, npE, encE_eq]
        rw [← List.map_take, npL_app]
        all_goals first | exact np_ints _ _ _ | rfl
    · refine TS.of [3] fun Q hQ => ?_
      simp only [go_sem, Nat.reduceEqDiff, Nat.reduceBEq, Int.reduceToNat, Int.reduceLT, Int.reduceLE, Int.reduceEq, Nat.reduceLeDiff, Nat.reduceLT, Nat.reduceMul, Nat.reduceAdd, String.reduceEq, i0, i3, i5, i16, i17, i18, hm, hlt]
      refine hQ (.exit 0) _ ?_; clear hQ Q
      obtain rfl : k = e.a.length := by omega
      rw [List.take_of_length_le (by omega)] at i5
      exact ⟨rfl, by simp [upd_apply, i0, i3, i5], by rw [hAl]⟩
  rintro e1 s2 ⟨rfl, ⟨i0, i3, i5⟩, hm2⟩
  have hend := DropW.rowsA (objs := RM B rs R) rw_ A.length
  refine TS.seq (TS.of [3] fun Q hQ => ?_)
  simp only [go_sem, Nat.reduceEqDiff, Nat.reduceBEq, Int.reduceToNat, Int.reduceLT, Int.reduceLE, Int.reduceEq, Nat.reduceLeDiff, Nat.reduceLT, Nat.reduceMul, Nat.reduceAdd, String.reduceEq, i0, i3, i5, hm2]
  refine hQ .normal _ ?_; clear hQ Q
  refine TS.seq (TS.of [3] fun Q hQ => ?_)
  simp only [go_sem, Nat.reduceEqDiff, Nat.reduceBEq, Int.reduceToNat, Int.reduceLT, Int.reduceLE, Int.reduceEq, Nat.reduceLeDiff, Nat.reduceLT, Nat.reduceMul, Nat.reduceAdd, String.reduceEq]
  refine hQ .normal _ ?_; clear hQ Q
  unfold val1 at hv
  by_cases c1 : e.k = 1 ∧ A = []
  · rw [if_pos c1] at hv
    obtain ⟨k1, rfl⟩ := c1
    simp only [Option.some.injEq] at hv
    subst hv
    refine TS.of [3] fun Q hQ => ?_
    simp only [go_sem, Nat.reduceEqDiff, Nat.reduceBEq, Int.reduceToNat, Int.reduceLT, Int.reduceLE, Int.reduceEq, Nat.reduceLeDiff, Nat.reduceLT, Nat.reduceMul, Nat.reduceAdd, String.reduceEq, encE_eq, k1, i0, i3, i5]
    refine hQ .ret _ ?_; clear hQ Q; refine post_ret _ _ (ii e.n) ?_ rfl hend ⟨rfl, rfl⟩
    simp only [go_sem, Nat.reduceEqDiff, Nat.reduceBEq, Int.reduceToNat, Int.reduceLT, Int.reduceLE, Int.reduceEq, Nat.reduceLeDiff, Nat.reduceLT, Nat.reduceMul, Nat.reduceAdd, String.reduceEq]
  rw [if_neg c1] at hv
  by_cases c2 : e.k = 2 ∧ A = []
  · rw [if_pos c2] at hv
    obtain ⟨k2, rfl⟩ := c2
    by_cases t1 : e.s = qTrue ∨ e.s = qFalse
    · rw [if_pos t1] at hv
      simp only [Option.some.injEq] at hv
      by_cases t2 : e.s = ⟨#[116, 114, 117, 101]⟩
      · have hv1 : v = 1 := by rw [← hv, show decide (e.s = qTrue) = true from decide_eq_true t2]; rfl
        subst hv1
        cases hg : getM e.s rs.kn
        all_goals refine TS.of [3] fun Q hQ => ?_
        all_goals (simp only [go_sem, Nat.reduceEqDiff, Nat.reduceBEq, Int.reduceToNat, Int.reduceLT, Int.reduceLE, Int.reduceEq, Nat.reduceLeDiff, Nat.reduceLT, Nat.reduceMul, Nat.reduceAdd, String.reduceEq, encE_eq, k2, i0, i3, i5])
        all_goals refine drn_of ⟨[], [], []⟩ [0, 1, 3, 7, 0, 16, 63, 127, 255, 255, 511, 2047] (by kernel_rfl) ?_
        all_goals (simp only [go_sem, Nat.reduceEqDiff, Nat.reduceBEq, Int.reduceToNat, Int.reduceLT, Int.reduceLE, Int.reduceEq, Nat.reduceLeDiff, Nat.reduceLT, Nat.reduceMul, Nat.reduceAdd, String.reduceEq, encE_eq, k2, i0, i3, i5, d61, d62, Mem.map_, mlook_enc, mval_enc, some_enc, t2])
        all_goals refine cal_eq (bit_sim _ _) ?_
        all_goals simp only [go_sem, Nat.reduceEqDiff, Nat.reduceBEq, Int.reduceToNat, Int.reduceLT, Int.reduceLE, Int.reduceEq, Nat.reduceLeDiff, Nat.reduceLT, Nat.reduceMul, Nat.reduceAdd, String.reduceEq]
        all_goals (refine hQ .ret _ ?_; clear hQ Q; refine post_ret _ _ (ii 1) ?_ rfl hend ⟨rfl, rfl⟩)
        all_goals simp only [go_sem, Nat.reduceEqDiff, Nat.reduceBEq, Int.reduceToNat, Int.reduceLT, Int.reduceLE, Int.reduceEq, Nat.reduceLeDiff, Nat.reduceLT, Nat.reduceMul, Nat.reduceAdd, String.reduceEq]
        all_goals rfl
      · have t3 : e.s = ⟨#[102, 97, 108, 115, 101]⟩ := by rcases t1 with h | h; exact absurd h t2; exact h
        have t4 : ¬ ((⟨#[102, 97, 108, 115, 101]⟩ : ByteArray) = ⟨#[116, 114, 117, 101]⟩) := by decide
        have hv1 : v = 0 := by rw [← hv, show decide (e.s = qTrue) = false from decide_eq_false t2]; rfl
        subst hv1
        all_goals refine TS.of [3] fun Q hQ => ?_
        all_goals (simp only [go_sem, Nat.reduceEqDiff, Nat.reduceBEq, Int.reduceToNat, Int.reduceLT, Int.reduceLE, Int.reduceEq, Nat.reduceLeDiff, Nat.reduceLT, Nat.reduceMul, Nat.reduceAdd, String.reduceEq, encE_eq, k2, i0, i3, i5])
        all_goals refine drn_of ⟨[], [], []⟩ [0, 1, 3, 7, 0, 16, 63, 127, 255, 255, 511, 2047] (by kernel_rfl) ?_
        all_goals (simp only [go_sem, Nat.reduceEqDiff, Nat.reduceBEq, Int.reduceToNat, Int.reduceLT, Int.reduceLE, Int.reduceEq, Nat.reduceLeDiff, Nat.reduceLT, Nat.reduceMul, Nat.reduceAdd, String.reduceEq, encE_eq, k2, i0, i3, i5, d61, d62, Mem.map_, mlook_enc, mval_enc, some_enc, t3, t4])
        all_goals refine cal_eq (bit_sim _ _) ?_
        all_goals simp only [go_sem, Nat.reduceEqDiff, Nat.reduceBEq, Int.reduceToNat, Int.reduceLT, Int.reduceLE, Int.reduceEq, Nat.reduceLeDiff, Nat.reduceLT, Nat.reduceMul, Nat.reduceAdd, String.reduceEq]
        all_goals (refine hQ .ret _ ?_; clear hQ Q; refine post_ret _ _ (ii 0) ?_ rfl hend ⟨rfl, rfl⟩)
        all_goals simp only [go_sem, Nat.reduceEqDiff, Nat.reduceBEq, Int.reduceToNat, Int.reduceLT, Int.reduceLE, Int.reduceEq, Nat.reduceLeDiff, Nat.reduceLT, Nat.reduceMul, Nat.reduceAdd, String.reduceEq]
        all_goals rfl
    · rw [if_neg t1] at hv
      have t2 : ¬ e.s = ⟨#[116, 114, 117, 101]⟩ := fun h => t1 (.inl h)
      have t3 : ¬ e.s = ⟨#[102, 97, 108, 115, 101]⟩ := fun h => t1 (.inr h)
      refine TS.of [3] fun Q hQ => ?_
      simp only [go_sem, Nat.reduceEqDiff, Nat.reduceBEq, Int.reduceToNat, Int.reduceLT, Int.reduceLE, Int.reduceEq, Nat.reduceLeDiff, Nat.reduceLT, Nat.reduceMul, Nat.reduceAdd, String.reduceEq, encE_eq, k2, i0, i3, i5]
      refine drn_of ⟨[], [], []⟩ [0, 1, 3, 7, 0, 16, 63, 127, 255, 255, 511, 2047] (by kernel_rfl) ?_
      simp only [go_sem, Nat.reduceEqDiff, Nat.reduceBEq, Int.reduceToNat, Int.reduceLT, Int.reduceLE, Int.reduceEq, Nat.reduceLeDiff, Nat.reduceLT, Nat.reduceMul, Nat.reduceAdd, String.reduceEq, encE_eq, k2, i0, i3, i5, d61, d62, Mem.map_, mlook_enc, mval_enc, some_enc, t2, t3, hv, Option.getD_some, Option.isSome_some]
      refine hQ .ret _ ?_; clear hQ Q; refine post_ret _ _ (ii v) ?_ rfl hend ⟨rfl, rfl⟩
      simp only [go_sem, Nat.reduceEqDiff, Nat.reduceBEq, Int.reduceToNat, Int.reduceLT, Int.reduceLE, Int.reduceEq, Nat.reduceLeDiff, Nat.reduceLT, Nat.reduceMul, Nat.reduceAdd, String.reduceEq]
  rw [if_neg c2] at hv
  split at hv
  · rename_i a k3
    simp only [Option.some.injEq] at hv
    subst hv
    refine TS.of [3] fun Q hQ => ?_
    simp only [go_sem, Nat.reduceEqDiff, Nat.reduceBEq, Int.reduceToNat, Int.reduceLT, Int.reduceLE, Int.reduceEq, Nat.reduceLeDiff, Nat.reduceLT, Nat.reduceMul, Nat.reduceAdd, String.reduceEq, encE_eq, k3, i0, i3, i5]
    refine drn_of ⟨[], [], []⟩ [0, 1, 3, 7, 0, 16, 48, 127, 255, 511, 511, 1023] (by kernel_rfl) ?_
    have h58 : 58 ≤ (rs.cs.map (IV.v <| .int .i64 ·)).length := by rw [List.length_map]; omega
    simp only [go_sem, Nat.reduceEqDiff, Nat.reduceBEq, Int.reduceToNat, Int.reduceLT, Int.reduceLE, Int.reduceEq, Nat.reduceLeDiff, Nat.reduceLT, Nat.reduceMul, Nat.reduceAdd, String.reduceEq, encE_eq, k3, i0, i3, i5, d61, d62, take61 h60, h58, ints_sh]
    refine cald_eq (get_sim _ rs.lsn rs.cs h60 a) ?_
    simp only [go_sem, Nat.reduceEqDiff, Nat.reduceBEq, Int.reduceToNat, Int.reduceLT, Int.reduceLE, Int.reduceEq, Nat.reduceLeDiff, Nat.reduceLT, Nat.reduceMul, Nat.reduceAdd, String.reduceEq]
    refine hQ .ret _ ?_; clear hQ Q; refine post_ret _ _ (ii (getC rs.cs a)) ?_ rfl hend ⟨rfl, rfl⟩
    simp only [go_sem, Nat.reduceEqDiff, Nat.reduceBEq, Int.reduceToNat, Int.reduceLT, Int.reduceLE, Int.reduceEq, Nat.reduceLeDiff, Nat.reduceLT, Nat.reduceMul, Nat.reduceAdd, String.reduceEq]
  · rename_i a k4
    simp only [Option.some.injEq] at hv
    subst hv
    refine TS.of [3] fun Q hQ => ?_
    simp only [go_sem, Nat.reduceEqDiff, Nat.reduceBEq, Int.reduceToNat, Int.reduceLT, Int.reduceLE, Int.reduceEq, Nat.reduceLeDiff, Nat.reduceLT, Nat.reduceMul, Nat.reduceAdd, String.reduceEq, encE_eq, k4, i0, i3, i5]
    refine cal_eq (bit_sim _ _) ?_
    simp only [go_sem, Nat.reduceEqDiff, Nat.reduceBEq, Int.reduceToNat, Int.reduceLT, Int.reduceLE, Int.reduceEq, Nat.reduceLeDiff, Nat.reduceLT, Nat.reduceMul, Nat.reduceAdd, String.reduceEq]
    refine hQ .ret _ ?_; clear hQ Q; refine post_ret _ _ (ii (bit (decide (a = 0)))) ?_ rfl hend ⟨rfl, rfl⟩
    simp only [go_sem, Nat.reduceEqDiff, Nat.reduceBEq, Int.reduceToNat, Int.reduceLT, Int.reduceLE, Int.reduceEq, Nat.reduceLeDiff, Nat.reduceLT, Nat.reduceMul, Nat.reduceAdd, String.reduceEq]
  · rename_i a k5
    simp only [Option.some.injEq] at hv
    subst hv
    refine TS.of [3] fun Q hQ => ?_
    simp only [go_sem, Nat.reduceEqDiff, Nat.reduceBEq, Int.reduceToNat, Int.reduceLT, Int.reduceLE, Int.reduceEq, Nat.reduceLeDiff, Nat.reduceLT, Nat.reduceMul, Nat.reduceAdd, String.reduceEq, encE_eq, k5, i0, i3, i5]
    refine hQ .ret _ ?_; clear hQ Q; refine post_ret _ _ (ii (w64 (0 - a))) ?_ rfl hend ⟨rfl, rfl⟩
    simp only [go_sem, Nat.reduceEqDiff, Nat.reduceBEq, Int.reduceToNat, Int.reduceLT, Int.reduceLE, Int.reduceEq, Nat.reduceLeDiff, Nat.reduceLT, Nat.reduceMul, Nat.reduceAdd, String.reduceEq]
  · rename_i a b k6
    have ho := oper_ok e.s a b v hv
    have hsub := fun m => operate_sim m e.s a b
    rw [ho] at hsub
    refine TS.of [3] fun Q hQ => ?_
    simp only [go_sem, Nat.reduceEqDiff, Nat.reduceBEq, Int.reduceToNat, Int.reduceLT, Int.reduceLE, Int.reduceEq, Nat.reduceLeDiff, Nat.reduceLT, Nat.reduceMul, Nat.reduceAdd, String.reduceEq, encE_eq, k6, i0, i3, i5]
    refine drn_of ⟨[], [], []⟩ [0, 1, 0, 4, 12, 0, 32, 96, 255, 511, 1023, 1023, 2047, 8191] (by kernel_rfl) ?_
    simp only [go_sem, Nat.reduceEqDiff, Nat.reduceBEq, Int.reduceToNat, Int.reduceLT, Int.reduceLE, Int.reduceEq, Nat.reduceLeDiff, Nat.reduceLT, Nat.reduceMul, Nat.reduceAdd, String.reduceEq, encE_eq, k6, i0, i3, i5]
    refine cald_eq (hsub _) ?_
    simp only [go_sem, Nat.reduceEqDiff, Nat.reduceBEq, Int.reduceToNat, Int.reduceLT, Int.reduceLE, Int.reduceEq, Nat.reduceLeDiff, Nat.reduceLT, Nat.reduceMul, Nat.reduceAdd, String.reduceEq]
    refine hQ .ret _ ?_; clear hQ Q; refine post_ret _ _ (ii v) ?_ rfl hend ⟨rfl, rfl⟩
    simp only [go_sem, Nat.reduceEqDiff, Nat.reduceBEq, Int.reduceToNat, Int.reduceLT, Int.reduceLE, Int.reduceEq, Nat.reduceLeDiff, Nat.reduceLT, Nat.reduceMul, Nat.reduceAdd, String.reduceEq]
  · cases hv
theorem value_all : ∀ N, N < 900000 → VC N := by
  intro N
  induction N using Nat.strongRecOn with
  | ind N ih => intro hN; exact value_step hN fun M h => ih M h (by omega)
theorem value_sim {e : Expr} {rs : RS} {v : Int} (h : szE e < 900000) (h60 : rs.cs.length = 60) (hv : valE e rs = some v) (B R : List IObj) (rw_ : List Nat) : Sim 61 [.ptr (B.length + 1) 0, .agg (encE e)] ⟨RM B rs R, rw_⟩ (fun x m' => x = ii v ∧ m' = ⟨RM B rs R, rw_⟩) := value_all _ h e rs v (Nat.le_refl _) h60 hv B R rw_
end Go.Proofs.Ytphjldhdnmoolaa.A
