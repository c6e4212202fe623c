/- Joined: B16, B17, B18, B19, B20, B21, B22, B23, B24, B25, B28, B29, N0, N1, N2, R0, B1 -/
import Derived.Test.YtphjldhdnmoolaaJCheckNames1
set_option linter.unusedVariables false
set_option linter.unusedSimpArgs false
/- The walks of some functions over the abstract machine. -/
namespace Go.Proofs.Ytphjldhdnmoolaa.A
open Go
structure CS where
  kn : List Ent
  kc : Nat
  us : List Ent
  uc : Nat
  ft : Option (Int × Int)
  rd : Bool
  md : Int
  tn : Bool
def ftI : Option (Int × Int) → IV
  | none => .v (.pointer none)
  | some p => .ref [ii p.1, ii p.2]
abbrev cellsC (o : Nat) (cs : CS) : List IV := [.map o, .map (o + 1), ftI cs.ft, bb cs.rd, ii cs.md, ii 0, ii 0, bb cs.tn]
abbrev CM (B : List IObj) (cs : CS) (R : List IObj) : List IObj := B ++ (.map (encM cs.kn) cs.kc :: .map (encM cs.us) cs.uc :: .cells (cellsC B.length cs) :: R)
def SimC (f : FuncId) (args : List IV) (cs : CS) (r : IV) (cs' : CS) : Prop := ∀ (B R : List IObj) (rw_ : List Nat), Sim f (.ptr (B.length + 2) 0 :: args) ⟨CM B cs R, rw_⟩ (fun x m' => x = r ∧ m' = ⟨CM B cs' R, rw_⟩)
def CS.fail (code at_ : Int) (cs : CS) : CS := if cs.ft.isNone then { cs with ft := some (code, at_) } else cs
theorem ftI_none : ftI none = .v (.pointer none) := rfl
theorem ftI_some {p : Int × Int} : ftI (some p) = .ref [ii p.1, ii p.2] := rfl
theorem np_ft {no nr : Nat} : ∀ f, (ftI f).np no nr = true
  | none => rfl
  | some p => by simp [ftI, IV.np, npL]
theorem DropW.ck (B : List IObj) (cs cs' : CS) (R X : List IObj) (rw_ rs : List Nat) : DropW ⟨CM B cs R, rw_⟩ (B.length + (R.length + 3)) rw_.length ⟨CM B cs' (R ++ X), rw_ ++ rs⟩ ⟨CM B cs' R, rw_⟩ := by
  refine ⟨?_, by simp, by simp [CM], Nat.le_refl _, fun o x hx hl => ?_⟩
  · have : (CM B cs' (R ++ X)) = CM B cs' R ++ X := by simp [CM]
    simp only [this]
    rw [List.take_left' (by simp [CM])]
  · simp only [CM] at hx ⊢
    by_cases h1 : o < B.length
    · left; rw [List.getElem?_append_left h1] at hx ⊢; exact hx
    · rw [List.getElem?_append_right (by omega)] at hx ⊢
      generalize hk : o - B.length = k at hx ⊢
      match k, hx with
      | 0, hx => right; simp at hx; subst hx; rfl
      | 1, hx => right; simp at hx; subst hx; rfl
      | 2, hx =>
        right; simp at hx; subst hx
        simp [IObj.np, npL, IV.np, np_ft] <;> omega
      | k + 3, hx =>
        left
        simp only [List.getElem?_cons_succ] at hx ⊢
        rw [List.getElem?_append_left (by omega)] at hx
        exact hx
theorem DropW.ck0 (B : List IObj) (cs cs' : CS) (R : List IObj) (rw_ : List Nat) : DropW ⟨CM B cs R, rw_⟩ (B.length + (R.length + 3)) rw_.length ⟨CM B cs' R, rw_⟩ ⟨CM B cs' R, rw_⟩ := by
  have := DropW.ck B cs cs' R [] rw_ []
  simpa using this
theorem DropW.ckX (B : List IObj) (cs cs' : CS) (R : List IObj) (rw_ : List Nat) (X : List IObj) : DropW ⟨CM B cs R, rw_⟩ (B.length + (R.length + 3)) rw_.length ⟨CM B cs' (R ++ X), rw_⟩ ⟨CM B cs' R, rw_⟩ := by
  have := DropW.ck B cs cs' R X rw_ []
  simpa using this
set_option maxRecDepth 100000 in
set_option maxHeartbeats 4000000 in
theorem fail_sim (cs : CS) (code at_ : Int) : SimC 56 [ii code, ii at_] cs (.tup []) (cs.fail code at_) := by
  intro B R rw_
  refine Sim.ofS 18 [] Try.func56 rfl rfl rfl (by simp) fun wr => ?_
  simp only [go_sem, Nat.reduceEqDiff, Nat.reduceBEq, Int.reduceToNat, Int.reduceLT, Int.reduceLE, Int.reduceEq, Nat.reduceLeDiff, Nat.reduceLT, Nat.reduceMul, Nat.reduceAdd, String.reduceEq]
  cases hf : cs.ft with
  | none =>
    have hgo : cs.fail code at_ = { cs with ft := some (code, at_) } := by simp [CS.fail, hf]
    refine TS.of [15] fun Q hQ => ?_
    simp only [go_sem, Nat.reduceEqDiff, Nat.reduceBEq, Int.reduceToNat, Int.reduceLT, Int.reduceLE, Int.reduceEq, Nat.reduceLeDiff, Nat.reduceLT, Nat.reduceMul, Nat.reduceAdd, String.reduceEq, hf, ftI_none]
    refine hQ .normal _ ?_; exact post_end _ _ (.tup []) (by simp only [go_sem, Nat.reduceEqDiff, Nat.reduceBEq, Int.reduceToNat, Int.reduceLT, Int.reduceLE, Int.reduceEq, Nat.reduceLeDiff, Nat.reduceLT, Nat.reduceMul, Nat.reduceAdd, String.reduceEq]) rfl (DropW.ck0 B cs ({ cs with ft := some (code, at_) }) R rw_) ⟨rfl, by rw [hgo]⟩
  | some p =>
    have hgo : cs.fail code at_ = cs := by simp [CS.fail, hf]
    refine TS.of [15] fun Q hQ => ?_
    simp only [go_sem, Nat.reduceEqDiff, Nat.reduceBEq, Int.reduceToNat, Int.reduceLT, Int.reduceLE, Int.reduceEq, Nat.reduceLeDiff, Nat.reduceLT, Nat.reduceMul, Nat.reduceAdd, String.reduceEq, hf, ftI_some]
    refine hQ .normal _ ?_; exact post_end _ _ (.tup []) (by simp only [go_sem, Nat.reduceEqDiff, Nat.reduceBEq, Int.reduceToNat, Int.reduceLT, Int.reduceLE, Int.reduceEq, Nat.reduceLeDiff, Nat.reduceLT, Nat.reduceMul, Nat.reduceAdd, String.reduceEq]) rfl (DropW.ck0 B cs (cs) R rw_) ⟨rfl, by rw [hgo]⟩
/-- What holds of the names of a checker. -/
structure CS.ok (cs : CS) : Prop where
  kb : ∀ e ∈ cs.kn, e.2.2 < cs.kc
  ub : ∀ e ∈ cs.us, e.2.2 < cs.uc
  pos : ∀ e ∈ cs.us, 0 < e.2.1
  sub : ∀ s, getM s cs.us = none → getM s cs.kn = none
  kpos : ∀ e ∈ cs.kn, 0 < e.2.1
  ul : cs.us.length ≤ 16
def CS.declare (name : Bytes) (kind at_ : Int) (cs : CS) : CS :=
  if cs.ft.isSome then cs
  else if 0 < (getM name cs.us).getD 0 then cs.fail 9 at_
  else if 16 ≤ cs.us.length then cs.fail 15 at_
  else { cs with us := cs.us ++ [(name, kind, cs.uc)], uc := cs.uc + 1, kn := cs.kn ++ [(name, kind, cs.kc)], kc := cs.kc + 1 }
theorem getM_mem {s : Bytes} : ∀ {l : List Ent} {v : Int}, getM s l = some v → ∃ e ∈ l, e.1 = s ∧ e.2.1 = v
  | [], v, h => by cases h
  | e :: l, v, h => by
    unfold getM at h
    split at h
    · rename_i hs; cases h; exact ⟨e, List.mem_cons_self .., hs.symm, rfl⟩
    · obtain ⟨e', h1, h2⟩ := getM_mem h; exact ⟨e', List.mem_cons_of_mem _ h1, h2⟩
theorem CS.ok.absent {cs : CS} (h : cs.ok) {s : Bytes} (hz : ¬ 0 < (getM s cs.us).getD 0) : getM s cs.us = none ∧ getM s cs.kn = none := by
  have : getM s cs.us = none := by
    cases hg : getM s cs.us with
    | none => rfl
    | some v =>
      exfalso
      rw [hg] at hz
      obtain ⟨e, h1, h2, h3⟩ := getM_mem hg
      have := h.pos e h1
      apply hz
      simp only [Option.getD_some]
      omega
  exact ⟨this, h.sub s this⟩
set_option maxRecDepth 100000 in
set_option maxHeartbeats 4000000 in
theorem declare_sim (cs : CS) (hok : cs.ok) (hlen : cs.us.length < 900000) (name : Bytes) (kind at_ : Int) : SimC 57 [ss name, ii kind, ii at_] cs (.tup []) (cs.declare name kind at_) := by
  intro B R rw_
  refine Sim.ofS 51 [] Try.func57 rfl rfl rfl (by simp) fun wr => ?_
  simp only [go_sem, Nat.reduceEqDiff, Nat.reduceBEq, Int.reduceToNat, Int.reduceLT, Int.reduceLE, Int.reduceEq, Nat.reduceLeDiff, Nat.reduceLT, Nat.reduceMul, Nat.reduceAdd, String.reduceEq]
  cases hf : cs.ft with
  | some p =>
    have hgo : cs.declare name kind at_ = cs := by simp [CS.declare, hf]
    refine TS.of [] fun Q hQ => ?_
    simp only [go_sem, Nat.reduceEqDiff, Nat.reduceBEq, Int.reduceToNat, Int.reduceLT, Int.reduceLE, Int.reduceEq, Nat.reduceLeDiff, Nat.reduceLT, Nat.reduceMul, Nat.reduceAdd, String.reduceEq, hf, ftI_some]
    refine hQ .ret _ ?_; exact post_ret _ _ (.tup []) (by simp only [go_sem, Nat.reduceEqDiff, Nat.reduceBEq, Int.reduceToNat, Int.reduceLT, Int.reduceLE, Int.reduceEq, Nat.reduceLeDiff, Nat.reduceLT, Nat.reduceMul, Nat.reduceAdd, String.reduceEq]) rfl (DropW.ck0 B cs (cs) R rw_) ⟨rfl, by rw [hgo]⟩
  | none =>
    by_cases hz : 0 < (getM name cs.us).getD 0
    · have hgo : cs.declare name kind at_ = cs.fail 9 at_ := by simp [CS.declare, hf, hz]
      refine TS.of [] fun Q hQ => ?_
      simp only [go_sem, Nat.reduceEqDiff, Nat.reduceBEq, Int.reduceToNat, Int.reduceLT, Int.reduceLE, Int.reduceEq, Nat.reduceLeDiff, Nat.reduceLT, Nat.reduceMul, Nat.reduceAdd, String.reduceEq, hf, ftI_none, Mem.map_, mlook_enc, mval_enc, hz]
      refine cal_eq ((fail_sim cs 9 at_) B R rw_) ?_
      simp only [go_sem, Nat.reduceEqDiff, Nat.reduceBEq, Int.reduceToNat, Int.reduceLT, Int.reduceLE, Int.reduceEq, Nat.reduceLeDiff, Nat.reduceLT, Nat.reduceMul, Nat.reduceAdd, String.reduceEq]
      refine hQ .ret _ ?_; exact post_ret _ _ (.tup []) (by simp only [go_sem, Nat.reduceEqDiff, Nat.reduceBEq, Int.reduceToNat, Int.reduceLT, Int.reduceLE, Int.reduceEq, Nat.reduceLeDiff, Nat.reduceLT, Nat.reduceMul, Nat.reduceAdd, String.reduceEq]) rfl (DropW.ck0 B cs (cs.fail 9 at_) R rw_) ⟨rfl, by rw [hgo]⟩
    · obtain ⟨hu, hk⟩ := hok.absent hz
      by_cases hl : 16 ≤ cs.us.length
      · have hgo : cs.declare name kind at_ = cs.fail 15 at_ := by simp [CS.declare, hf, hz, hl]
        have hl' : (16 : Int) ≤ (cs.us.length : Int) := by omega
        refine TS.of [] fun Q hQ => ?_
        simp only [go_sem, Nat.reduceEqDiff, Nat.reduceBEq, Int.reduceToNat, Int.reduceLT, Int.reduceLE, Int.reduceEq, Nat.reduceLeDiff, Nat.reduceLT, Nat.reduceMul, Nat.reduceAdd, String.reduceEq, hf, ftI_none, Mem.map_, mlook_enc, mval_enc, hz, encM_size, hl']
        refine cal_eq ((fail_sim cs 15 at_) B R rw_) ?_
        simp only [go_sem, Nat.reduceEqDiff, Nat.reduceBEq, Int.reduceToNat, Int.reduceLT, Int.reduceLE, Int.reduceEq, Nat.reduceLeDiff, Nat.reduceLT, Nat.reduceMul, Nat.reduceAdd, String.reduceEq]
        refine hQ .ret _ ?_; exact post_ret _ _ (.tup []) (by simp only [go_sem, Nat.reduceEqDiff, Nat.reduceBEq, Int.reduceToNat, Int.reduceLT, Int.reduceLE, Int.reduceEq, Nat.reduceLeDiff, Nat.reduceLT, Nat.reduceMul, Nat.reduceAdd, String.reduceEq]) rfl (DropW.ck0 B cs (cs.fail 15 at_) R rw_) ⟨rfl, by rw [hgo]⟩
      · have hgo : cs.declare name kind at_ = { cs with us := cs.us ++ [(name, kind, cs.uc)], uc := cs.uc + 1, kn := cs.kn ++ [(name, kind, cs.kc)], kc := cs.kc + 1 } := by simp [CS.declare, hf, hz, hl]
        have hl' : ¬ (16 : Int) ≤ (cs.us.length : Int) := by omega
        have h1 := ment_enc (c := cs.uc) hu
        have h2 := born_enc (c := cs.uc) hu
        have h3 := estore_enc (s := name) (v := kind) hok.ub
        have g1 := ment_enc (c := cs.kc) hk
        have g2 := born_enc (c := cs.kc) hk
        have g3 := estore_enc (s := name) (v := kind) hok.kb
        refine TS.of [] fun Q hQ => ?_
        simp only [go_sem, Nat.reduceEqDiff, Nat.reduceBEq, Int.reduceToNat, Int.reduceLT, Int.reduceLE, Int.reduceEq, Nat.reduceLeDiff, Nat.reduceLT, Nat.reduceMul, Nat.reduceAdd, String.reduceEq, hf, ftI_none, Mem.map_, mlook_enc, mval_enc, hz, encM_size, hl']
        refine drn_of ⟨[], [], []⟩ [0, 1, 3, 7, 0, 0, 32, 96, 224, 0, 0, 0, 511, 4607, 13823, 30719, 63487, 131071] (by kernel_rfl) ?_
        simp only [go_sem, Nat.reduceEqDiff, Nat.reduceBEq, Int.reduceToNat, Int.reduceLT, Int.reduceLE, Int.reduceEq, Nat.reduceLeDiff, Nat.reduceLT, Nat.reduceMul, Nat.reduceAdd, String.reduceEq, hf, ftI_none, Mem.map_, mlook_enc, mval_enc, h1, h2, h3.1, h3.2, g1, g2, g3.1, g3.2]
        refine hQ .normal _ ?_; exact post_end _ _ (.tup []) (by simp only [go_sem, Nat.reduceEqDiff, Nat.reduceBEq, Int.reduceToNat, Int.reduceLT, Int.reduceLE, Int.reduceEq, Nat.reduceLeDiff, Nat.reduceLT, Nat.reduceMul, Nat.reduceAdd, String.reduceEq]) rfl (DropW.ck0 B cs ({ cs with us := cs.us ++ [(name, kind, cs.uc)], uc := cs.uc + 1, kn := cs.kn ++ [(name, kind, cs.kc)], kc := cs.kc + 1 }) R rw_) ⟨rfl, by rw [hgo]⟩
end Go.Proofs.Ytphjldhdnmoolaa.A
/- The walks of some functions over the abstract machine. -/
namespace Go.Proofs.Ytphjldhdnmoolaa.A
open Go
mutual
def cexpr : Expr → CS → Int × Int × CS
  | .mk k _ s a p, cs =>
    if k = 1 then (1, 1, cs)
    else if k = 2 then
      if s = qTrue ∨ s = qFalse then (2, 1, cs)
      else match getM s cs.kn with
        | some v => (v, 1, cs)
        | none => (0, 1, cs.fail 9 p)
    else if k = 3 then (1, 1 + (cargs a 1 { cs with rd := true }).1, (cargs a 1 { cs with rd := true }).2)
    else if k = 4 then (2, 1 + (cargs a 2 cs).1, (cargs a 2 cs).2)
    else if k = 5 then (1, 1 + (cargs a 1 cs).1, (cargs a 1 cs).2)
    else if s = qAnd ∨ s = qOr then (2, 1 + (cargs a 2 cs).1, (cargs a 2 cs).2)
    else if s = qLt ∨ s = qLe ∨ s = qGt ∨ s = qGe then (2, 1 + (cargs a 1 cs).1, (cargs a 1 cs).2)
    else if s = qEq ∨ s = qNe then
      if a.length = 2 then (2, 1 + (ceq a cs).1, (ceq a cs).2) else (2, 1, cs)
    else (1, 1 + (cargs a 1 cs).1, (cargs a 1 cs).2)
def cargs : List Expr → Int → CS → Int × CS
  | [], _, cs => (0, cs)
  | e :: l, kind, cs =>
    ((cexpr e cs).2.1 + (cargs l kind (if (cexpr e cs).1 = kind then (cexpr e cs).2.2 else (cexpr e cs).2.2.fail 10 e.p)).1,
      (cargs l kind (if (cexpr e cs).1 = kind then (cexpr e cs).2.2 else (cexpr e cs).2.2.fail 10 e.p)).2)
def ceq : List Expr → CS → Int × CS
  | [], cs => (0, cs)
  | e :: l, cs => ((cexpr e cs).2.1 + (cargs l (cexpr e cs).1 (cexpr e cs).2.2).1, (cargs l (cexpr e cs).1 (cexpr e cs).2.2).2)
end
def cwant (e : Expr) (kind : Int) (cs : CS) : Int × CS := ((cexpr e cs).2.1, if (cexpr e cs).1 = kind then (cexpr e cs).2.2 else (cexpr e cs).2.2.fail 10 e.p)
theorem cargs_cons (e : Expr) (l : List Expr) (kind : Int) (cs : CS) : cargs (e :: l) kind cs = ((cwant e kind cs).1 + (cargs l kind (cwant e kind cs).2).1, (cargs l kind (cwant e kind cs).2).2) := by rw [cargs]; rfl
theorem ceq_two (x y : Expr) (cs : CS) : ceq [x, y] cs = ((cexpr x cs).2.1 + (cwant y (cexpr x cs).1 (cexpr x cs).2.2).1, (cwant y (cexpr x cs).1 (cexpr x cs).2.2).2) := by rw [ceq, cargs_cons]; simp [cargs]
mutual
theorem cexpr_le : ∀ (e : Expr) (cs : CS), 0 ≤ (cexpr e cs).2.1 ∧ (cexpr e cs).2.1 ≤ szE e
  | .mk k _ s a p, cs => by
    unfold cexpr szE
    have h1 := fun kind cs => cargs_le a kind cs
    have h2 := fun cs => ceq_le a cs
    have s0 : 0 ≤ szs a := Nat.zero_le _
    repeat' split
    all_goals dsimp only
    all_goals first | omega | (have := h1 1 { cs with rd := true }; omega) | (have := h1 2 cs; omega) | (have := h1 1 cs; omega) | (have := h2 cs; omega)
theorem cargs_le : ∀ (l : List Expr) (kind : Int) (cs : CS), 0 ≤ (cargs l kind cs).1 ∧ (cargs l kind cs).1 ≤ szs l
  | [], kind, cs => by simp [cargs, szs]
  | e :: l, kind, cs => by
    rw [cargs, szs]
    have h1 := cexpr_le e cs
    have h2 := cargs_le l kind (if (cexpr e cs).1 = kind then (cexpr e cs).2.2 else (cexpr e cs).2.2.fail 10 e.p)
    dsimp only
    omega
theorem ceq_le : ∀ (l : List Expr) (cs : CS), 0 ≤ (ceq l cs).1 ∧ (ceq l cs).1 ≤ szs l
  | [], cs => by simp [ceq, szs]
  | e :: l, cs => by
    rw [ceq, szs]
    have h1 := cexpr_le e cs
    have h2 := cargs_le l (cexpr e cs).1 (cexpr e cs).2.2
    dsimp only
    omega
end
def EC (N : Nat) : Prop := ∀ (e : Expr) (cs : CS), szE e ≤ N → SimC 81 [.agg (encE e)] cs (.tup [ii (cexpr e cs).1, ii (cexpr e cs).2.1]) (cexpr e cs).2.2
def WC (N : Nat) : Prop := ∀ (e : Expr) (kind : Int) (cs : CS), szE e ≤ N → SimC 58 [.agg (encE e), ii kind] cs (ii (cwant e kind cs).1) (cwant e kind cs).2
def AC (N : Nat) : Prop := ∀ (e : Expr) (kind : Int) (cs : CS), szs e.a ≤ N → SimC 97 [.agg (encE e), ii kind] cs (ii (1 + (cargs e.a kind cs).1)) (cargs e.a kind cs).2
set_option maxRecDepth 100000 in
set_option maxHeartbeats 4000000 in
theorem want_step {N : Nat} (ih : EC N) : WC N := by
  intro e kind cs hN B R rw_
  refine Sim.ofS 23 [.tmp 6] Try.func58 rfl rfl rfl (by simp) fun wr => ?_
  simp only [go_sem, Nat.reduceEqDiff, Nat.reduceBEq, Int.reduceToNat, Int.reduceLT, Int.reduceLE, Int.reduceEq, Nat.reduceLeDiff, Nat.reduceLT, Nat.reduceMul, Nat.reduceAdd, String.reduceEq]
  have hsub := ih e cs hN B R rw_
  have hgo : cwant e kind cs = cwant e kind cs := rfl
  conv at hgo => rhs; unfold cwant
  generalize cexpr e cs = X at hsub hgo
  refine TS.of [4] fun Q hQ => ?_
  simp only [go_sem, Nat.reduceEqDiff, Nat.reduceBEq, Int.reduceToNat, Int.reduceLT, Int.reduceLE, Int.reduceEq, Nat.reduceLeDiff, Nat.reduceLT, Nat.reduceMul, Nat.reduceAdd, String.reduceEq, encE_eq]
  refine cal_eq (by simpa only [encE_eq] using hsub) ?_
  by_cases hk : X.1 = kind
  · rw [if_pos hk] at hgo
    simp only [go_sem, Nat.reduceEqDiff, Nat.reduceBEq, Int.reduceToNat, Int.reduceLT, Int.reduceLE, Int.reduceEq, Nat.reduceLeDiff, Nat.reduceLT, Nat.reduceMul, Nat.reduceAdd, String.reduceEq, hk]
    refine hQ .ret _ ?_; exact post_ret _ _ (ii X.2.1) (by simp only [go_sem, Nat.reduceEqDiff, Nat.reduceBEq, Int.reduceToNat, Int.reduceLT, Int.reduceLE, Int.reduceEq, Nat.reduceLeDiff, Nat.reduceLT, Nat.reduceMul, Nat.reduceAdd, String.reduceEq]) rfl (DropW.ck0 B cs (X.2.2) R rw_) ⟨by rw [hgo], by rw [hgo]⟩
  · rw [if_neg hk] at hgo
    simp only [go_sem, Nat.reduceEqDiff, Nat.reduceBEq, Int.reduceToNat, Int.reduceLT, Int.reduceLE, Int.reduceEq, Nat.reduceLeDiff, Nat.reduceLT, Nat.reduceMul, Nat.reduceAdd, String.reduceEq, hk]
    refine cal_eq (fail_sim X.2.2 10 e.p B R rw_) ?_
    simp only [go_sem, Nat.reduceEqDiff, Nat.reduceBEq, Int.reduceToNat, Int.reduceLT, Int.reduceLE, Int.reduceEq, Nat.reduceLeDiff, Nat.reduceLT, Nat.reduceMul, Nat.reduceAdd, String.reduceEq]
    refine hQ .ret _ ?_; exact post_ret _ _ (ii X.2.1) (by simp only [go_sem, Nat.reduceEqDiff, Nat.reduceBEq, Int.reduceToNat, Int.reduceLT, Int.reduceLE, Int.reduceEq, Nat.reduceLeDiff, Nat.reduceLT, Nat.reduceMul, Nat.reduceAdd, String.reduceEq]) rfl (DropW.ck0 B cs (X.2.2.fail 10 e.p) R rw_) ⟨by rw [hgo], by rw [hgo]⟩
theorem SimC.mem {f : FuncId} {args : List IV} {cs cs' : CS} {r : IV} (h : SimC f args cs r cs') (B R : List IObj) (rw_ : List Nat) : Sim f (.ptr (B.length + 2) 0 :: args) ⟨CM B cs R, rw_⟩ (fun x m' => x = r ∧ m' = ⟨CM B cs' R, rw_⟩) := h B R rw_
set_option maxRecDepth 100000 in
set_option maxHeartbeats 4000000 in
theorem args_step {N : Nat} (hNb : N < 900000) (ih : WC N) : AC N := by
  intro e kind cs hN B R rw_
  refine Sim.ofS 25 [.tmp 6] Try.func97 rfl rfl rfl (by simp) fun wr => ?_
  simp only [go_sem, Nat.reduceEqDiff, Nat.reduceBEq, Int.reduceToNat, Int.reduceLT, Int.reduceLE, Int.reduceEq, Nat.reduceLeDiff, Nat.reduceLT, Nat.reduceMul, Nat.reduceAdd, String.reduceEq]
  have hll := szs_len e.a
  refine TS.seq (TS.of [4] fun Q hQ => ?_)
  simp only [go_sem, Nat.reduceEqDiff, Nat.reduceBEq, Int.reduceToNat, Int.reduceLT, Int.reduceLE, Int.reduceEq, Nat.reduceLeDiff, Nat.reduceLT, Nat.reduceMul, Nat.reduceAdd, String.reduceEq, encE_eq]
  refine hQ .normal _ ?_; clear hQ Q
  refine TS.seq (TS.of [] fun Q hQ => ?_)
  simp only [go_sem, Nat.reduceEqDiff, Nat.reduceBEq, Int.reduceToNat, Int.reduceLT, Int.reduceLE, Int.reduceEq, Nat.reduceLeDiff, Nat.reduceLT, Nat.reduceMul, Nat.reduceAdd, String.reduceEq]
  refine hQ .normal _ ?_; clear hQ Q
  refine TS.seq (TS.seq (TS.of [] fun Q hQ => ?_))
  simp only [go_sem, Nat.reduceEqDiff, Nat.reduceBEq, Int.reduceToNat, Int.reduceLT, Int.reduceLE, Int.reduceEq, Nat.reduceLeDiff, Nat.reduceLT, Nat.reduceMul, Nat.reduceAdd, String.reduceEq]
  refine hQ .normal _ ?_; clear hQ Q
  refine TS.block (TS.loop (α := Nat × Int × CS) (fun x => [(0, .ptr (B.length + 2) 0), (2, ii kind), (7, ii x.2.1), (11, slE e.a), (12, ii e.a.length), (13, ii x.1)]) (fun x => ⟨CM B x.2.2 R, rw_⟩) (fun x => x.1 ≤ e.a.length ∧ 0 ≤ x.2.1 ∧ x.2.1 + szs (e.a.drop x.1) ≤ 1 + szs e.a ∧ x.2.1 + (cargs (e.a.drop x.1) kind x.2.2).1 = 1 + (cargs e.a kind cs).1 ∧ (cargs (e.a.drop x.1) kind x.2.2).2 = (cargs e.a kind cs).2) (fun x => e.a.length - x.1) (0, 1, cs) (by simp) ⟨by simp [Has, upd_apply, argsT], rfl, by simp⟩ ?_)
  rintro ⟨k, n, c1⟩ st hH hm ⟨hk, hn0, hn1, hc1, hc2⟩
  dsimp only at hH hm hk hn0 hn1 hc1 hc2
  simp only [Has, List.mem_cons, List.not_mem_nil, or_false, forall_eq_or_imp, forall_eq] at hH; obtain ⟨i0, i2, i7, i11, i12, i13⟩ := hH
  by_cases hlt : k < e.a.length
  · obtain ⟨x, hx⟩ : ∃ x, e.a[k]? = some x := ⟨_, List.getElem?_eq_getElem hlt⟩
    have hdr : e.a.drop k = x :: e.a.drop (k + 1) := by rw [List.drop_eq_getElem_cons hlt]; congr 1; exact Option.some.inj ((List.getElem?_eq_getElem hlt).symm.trans hx)
    have hat := encEs_at hx
    have hlt5 : k * 5 < (encEs e.a).length := by rw [encEs_length]; omega
    have hw := wrap_succ hlt (by omega)
    have hsz := szE_at hx
    rw [hdr, cargs_cons] at hc1 hc2
    rw [hdr, szs] at hn1
    have hcw : 0 ≤ (cwant x kind c1).1 ∧ (cwant x kind c1).1 ≤ szE x := cexpr_le x c1
    have hsub := (ih x kind c1 (by omega)).mem B (R ++ [.cells (encE x)]) rw_
    rw [encE_eq] at hsub
    generalize cwant x kind c1 = X at hc1 hc2 hsub hcw
    have hw2 : IntKind.i64.wrap (n + X.1) = n + X.1 := wrap_small (by omega) (by omega)
    refine TS.of [] fun Q hQ => ?_
    simp only [go_sem, Nat.reduceEqDiff, Nat.reduceBEq, Int.reduceToNat, Int.reduceLT, Int.reduceLE, Int.reduceEq, Nat.reduceLeDiff, Nat.reduceLT, Nat.reduceMul, Nat.reduceAdd, String.reduceEq, i0, i2, i7, i11, i12, i13, hm, hlt, hat, hlt5]
    refine cal_eq hsub ?_
    simp only [go_sem, Nat.reduceEqDiff, Nat.reduceBEq, Int.reduceToNat, Int.reduceLT, Int.reduceLE, Int.reduceEq, Nat.reduceLeDiff, Nat.reduceLT, Nat.reduceMul, Nat.reduceAdd, String.reduceEq, i0, i2, i7, i11, i12, i13, hw, hw2]
    refine hQ .normal _ ?_; clear hQ Q
    refine ⟨_, _, (k + 1, n + X.1, X.2), DropW.ckX B c1 X.2 R rw_ _, ?_, ⟨hlt, by dsimp only; omega, by dsimp only; omega, by dsimp only at hc1 ⊢; omega, hc2⟩, by dsimp only; omega⟩
    simp [upd_apply, i0, i2, i11, i12, IV.np, np_sh, npEs] <;> omega
  · refine TS.of [] fun Q hQ => ?_
    simp only [go_sem, Nat.reduceEqDiff, Nat.reduceBEq, Int.reduceToNat, Int.reduceLT, Int.reduceLE, Int.reduceEq, Nat.reduceLeDiff, Nat.reduceLT, Nat.reduceMul, Nat.reduceAdd, String.reduceEq, i0, i2, i7, i11, i12, i13, hm, hlt]
    refine hQ (.exit 0) _ ?_; clear hQ Q
    have : e.a.drop k = [] := List.drop_eq_nil_of_le (by omega)
    rw [this] at hc1 hc2
    simp only [cargs] at hc1 hc2
    refine TS.of [] fun Q hQ => ?_
    simp only [go_sem, Nat.reduceEqDiff, Nat.reduceBEq, Int.reduceToNat, Int.reduceLT, Int.reduceLE, Int.reduceEq, Nat.reduceLeDiff, Nat.reduceLT, Nat.reduceMul, Nat.reduceAdd, String.reduceEq, i0, i2, i7, i11, i12, i13]
    refine hQ .ret _ ?_; exact post_ret _ _ (ii n) (by simp only [go_sem, Nat.reduceEqDiff, Nat.reduceBEq, Int.reduceToNat, Int.reduceLT, Int.reduceLE, Int.reduceEq, Nat.reduceLeDiff, Nat.reduceLT, Nat.reduceMul, Nat.reduceAdd, String.reduceEq]) rfl (DropW.ck0 B cs (c1) R rw_) ⟨by rw [show 1 + (cargs e.a kind cs).1 = n by omega], by rw [hc2]⟩
set_option maxRecDepth 100000 in
set_option maxHeartbeats 4000000 in
theorem expr_cstep {N : Nat} (hNb : N < 900000) (ihE : ∀ M, M < N → EC M) (ihW : ∀ M, M < N → WC M) (ihA : ∀ M, M < N → AC M) : EC N := by
  intro e cs hN B R rw_
  have hsz := szE_eq e
  have hll := szs_len e.a
  refine Sim.ofS 104 [.tmp 4, .tmp 5] Try.func81 rfl rfl rfl (by simp) fun wr => ?_
  simp only [go_sem, Nat.reduceEqDiff, Nat.reduceBEq, Int.reduceToNat, Int.reduceLT, Int.reduceLE, Int.reduceEq, Nat.reduceLeDiff, Nat.reduceLT, Nat.reduceMul, Nat.reduceAdd, String.reduceEq]
  have hgo : cexpr e cs = cexpr e cs := rfl
  conv at hgo => rhs; rw [show e = .mk e.k e.n e.s e.a e.p by cases e; rfl]; unfold cexpr
  have hA := fun kind cs => ihA (szs e.a) (by omega) e kind cs (Nat.le_refl _)
  by_cases k1 : e.k = 1
  · rw [if_pos k1] at hgo
    refine TS.of [3] fun Q hQ => ?_
    simp only [go_sem, Nat.reduceEqDiff, Nat.reduceBEq, Int.reduceToNat, Int.reduceLT, Int.reduceLE, Int.reduceEq, Nat.reduceLeDiff, Nat.reduceLT, Nat.reduceMul, Nat.reduceAdd, String.reduceEq, encE_eq, k1]
    refine hQ .ret _ ?_; exact post_ret _ _ (.tup [ii 1, ii 1]) (by simp only [go_sem, Nat.reduceEqDiff, Nat.reduceBEq, Int.reduceToNat, Int.reduceLT, Int.reduceLE, Int.reduceEq, Nat.reduceLeDiff, Nat.reduceLT, Nat.reduceMul, Nat.reduceAdd, String.reduceEq]) rfl (DropW.ck0 B cs (cs) R rw_) ⟨by rw [hgo], by rw [hgo]⟩
  rw [if_neg k1] at hgo
  by_cases k2 : e.k = 2
  · rw [if_pos k2] at hgo
    by_cases t1 : e.s = qTrue ∨ e.s = qFalse
    · rw [if_pos t1] at hgo
      refine TS.of [3] fun Q hQ => ?_
      by_cases t2 : e.s = ⟨#[116, 114, 117, 101]⟩
      · simp only [go_sem, Nat.reduceEqDiff, Nat.reduceBEq, Int.reduceToNat, Int.reduceLT, Int.reduceLE, Int.reduceEq, Nat.reduceLeDiff, Nat.reduceLT, Nat.reduceMul, Nat.reduceAdd, String.reduceEq, encE_eq, k1, k2, t2]
        refine hQ .ret _ ?_; exact post_ret _ _ (.tup [ii 2, ii 1]) (by simp only [go_sem, Nat.reduceEqDiff, Nat.reduceBEq, Int.reduceToNat, Int.reduceLT, Int.reduceLE, Int.reduceEq, Nat.reduceLeDiff, Nat.reduceLT, Nat.reduceMul, Nat.reduceAdd, String.reduceEq]) rfl (DropW.ck0 B cs (cs) R rw_) ⟨by rw [hgo], by rw [hgo]⟩
      · have t3 : e.s = ⟨#[102, 97, 108, 115, 101]⟩ := by rcases t1 with h | h; exact absurd h t2; exact h
        have t4 : ¬ ((⟨#[102, 97, 108, 115, 101]⟩ : ByteArray) = ⟨#[116, 114, 117, 101]⟩) := by decide
        simp only [go_sem, Nat.reduceEqDiff, Nat.reduceBEq, Int.reduceToNat, Int.reduceLT, Int.reduceLE, Int.reduceEq, Nat.reduceLeDiff, Nat.reduceLT, Nat.reduceMul, Nat.reduceAdd, String.reduceEq, encE_eq, k1, k2, t3, t4]
        refine hQ .ret _ ?_; exact post_ret _ _ (.tup [ii 2, ii 1]) (by simp only [go_sem, Nat.reduceEqDiff, Nat.reduceBEq, Int.reduceToNat, Int.reduceLT, Int.reduceLE, Int.reduceEq, Nat.reduceLeDiff, Nat.reduceLT, Nat.reduceMul, Nat.reduceAdd, String.reduceEq]) rfl (DropW.ck0 B cs (cs) R rw_) ⟨by rw [hgo], by rw [hgo]⟩
    · rw [if_neg t1] at hgo
      have t2 : ¬ e.s = ⟨#[116, 114, 117, 101]⟩ := fun h => t1 (.inl h)
      have t3 : ¬ e.s = ⟨#[102, 97, 108, 115, 101]⟩ := fun h => t1 (.inr h)
      cases hg : getM e.s cs.kn with
      | some v =>
        rw [hg] at hgo
        refine TS.of [3] fun Q hQ => ?_
        simp only [go_sem, Nat.reduceEqDiff, Nat.reduceBEq, Int.reduceToNat, Int.reduceLT, Int.reduceLE, Int.reduceEq, Nat.reduceLeDiff, Nat.reduceLT, Nat.reduceMul, Nat.reduceAdd, String.reduceEq, encE_eq, k1, k2, t2, t3]
        refine drn_of ⟨[], [], []⟩ [0, 1, 3, 7, 0, 16, 63, 127, 255, 255, 511, 2047] (by kernel_rfl) ?_
        simp only [go_sem, Nat.reduceEqDiff, Nat.reduceBEq, Int.reduceToNat, Int.reduceLT, Int.reduceLE, Int.reduceEq, Nat.reduceLeDiff, Nat.reduceLT, Nat.reduceMul, Nat.reduceAdd, String.reduceEq, Mem.map_, mlook_enc, mval_enc, some_enc, hg, Option.getD_some, Option.isSome_some]
        refine hQ .ret _ ?_; exact post_ret _ _ (.tup [ii v, ii 1]) (by simp only [go_sem, Nat.reduceEqDiff, Nat.reduceBEq, Int.reduceToNat, Int.reduceLT, Int.reduceLE, Int.reduceEq, Nat.reduceLeDiff, Nat.reduceLT, Nat.reduceMul, Nat.reduceAdd, String.reduceEq]) rfl (DropW.ck0 B cs (cs) R rw_) ⟨by rw [hgo], by rw [hgo]⟩
      | none =>
        rw [hg] at hgo
        refine TS.of [3] fun Q hQ => ?_
        simp only [go_sem, Nat.reduceEqDiff, Nat.reduceBEq, Int.reduceToNat, Int.reduceLT, Int.reduceLE, Int.reduceEq, Nat.reduceLeDiff, Nat.reduceLT, Nat.reduceMul, Nat.reduceAdd, String.reduceEq, encE_eq, k1, k2, t2, t3]
        refine drn_of ⟨[], [], []⟩ [0, 1, 3, 7, 0, 16, 63, 127, 255, 255, 511, 2047] (by kernel_rfl) ?_
        simp only [go_sem, Nat.reduceEqDiff, Nat.reduceBEq, Int.reduceToNat, Int.reduceLT, Int.reduceLE, Int.reduceEq, Nat.reduceLeDiff, Nat.reduceLT, Nat.reduceMul, Nat.reduceAdd, String.reduceEq, Mem.map_, mlook_enc, mval_enc, some_enc, hg, Option.getD_none, Option.isSome_none]
        refine cal_eq (fail_sim cs 9 e.p B R rw_) ?_
        simp only [go_sem, Nat.reduceEqDiff, Nat.reduceBEq, Int.reduceToNat, Int.reduceLT, Int.reduceLE, Int.reduceEq, Nat.reduceLeDiff, Nat.reduceLT, Nat.reduceMul, Nat.reduceAdd, String.reduceEq]
        refine hQ .ret _ ?_; exact post_ret _ _ (.tup [ii 0, ii 1]) (by simp only [go_sem, Nat.reduceEqDiff, Nat.reduceBEq, Int.reduceToNat, Int.reduceLT, Int.reduceLE, Int.reduceEq, Nat.reduceLeDiff, Nat.reduceLT, Nat.reduceMul, Nat.reduceAdd, String.reduceEq]) rfl (DropW.ck0 B cs (cs.fail 9 e.p) R rw_) ⟨by rw [hgo], by rw [hgo]⟩
  rw [if_neg k2] at hgo
  by_cases k3 : e.k = 3
  · rw [if_pos k3] at hgo
    have hsub := (hA 1 { cs with rd := true }).mem B R rw_
    rw [encE_eq, k3] at hsub
    generalize cargs e.a 1 { cs with rd := true } = X at hgo hsub
    refine TS.of [3] fun Q hQ => ?_
    simp only [go_sem, Nat.reduceEqDiff, Nat.reduceBEq, Int.reduceToNat, Int.reduceLT, Int.reduceLE, Int.reduceEq, Nat.reduceLeDiff, Nat.reduceLT, Nat.reduceMul, Nat.reduceAdd, String.reduceEq, encE_eq, k1, k2, k3]
    refine cal_eq hsub ?_
    simp only [go_sem, Nat.reduceEqDiff, Nat.reduceBEq, Int.reduceToNat, Int.reduceLT, Int.reduceLE, Int.reduceEq, Nat.reduceLeDiff, Nat.reduceLT, Nat.reduceMul, Nat.reduceAdd, String.reduceEq]
    refine hQ .ret _ ?_; exact post_ret _ _ (.tup [ii 1, ii (1 + X.1)]) (by simp only [go_sem, Nat.reduceEqDiff, Nat.reduceBEq, Int.reduceToNat, Int.reduceLT, Int.reduceLE, Int.reduceEq, Nat.reduceLeDiff, Nat.reduceLT, Nat.reduceMul, Nat.reduceAdd, String.reduceEq]) rfl (DropW.ck0 B cs (X.2) R rw_) ⟨by rw [hgo], by rw [hgo]⟩
  rw [if_neg k3] at hgo
  by_cases k4 : e.k = 4
  · rw [if_pos k4] at hgo
    have hsub := (hA 2 cs).mem B R rw_
    rw [encE_eq, k4] at hsub
    generalize cargs e.a 2 cs = X at hgo hsub
    refine TS.of [3] fun Q hQ => ?_
    simp only [go_sem, Nat.reduceEqDiff, Nat.reduceBEq, Int.reduceToNat, Int.reduceLT, Int.reduceLE, Int.reduceEq, Nat.reduceLeDiff, Nat.reduceLT, Nat.reduceMul, Nat.reduceAdd, String.reduceEq, encE_eq, k1, k2, k3, k4]
    refine cal_eq hsub ?_
    simp only [go_sem, Nat.reduceEqDiff, Nat.reduceBEq, Int.reduceToNat, Int.reduceLT, Int.reduceLE, Int.reduceEq, Nat.reduceLeDiff, Nat.reduceLT, Nat.reduceMul, Nat.reduceAdd, String.reduceEq]
    refine hQ .ret _ ?_; exact post_ret _ _ (.tup [ii 2, ii (1 + X.1)]) (by simp only [go_sem, Nat.reduceEqDiff, Nat.reduceBEq, Int.reduceToNat, Int.reduceLT, Int.reduceLE, Int.reduceEq, Nat.reduceLeDiff, Nat.reduceLT, Nat.reduceMul, Nat.reduceAdd, String.reduceEq]) rfl (DropW.ck0 B cs (X.2) R rw_) ⟨by rw [hgo], by rw [hgo]⟩
  rw [if_neg k4] at hgo
  by_cases k5 : e.k = 5
  · rw [if_pos k5] at hgo
    have hsub := (hA 1 cs).mem B R rw_
    rw [encE_eq, k5] at hsub
    generalize cargs e.a 1 cs = X at hgo hsub
    refine TS.of [3] fun Q hQ => ?_
    simp only [go_sem, Nat.reduceEqDiff, Nat.reduceBEq, Int.reduceToNat, Int.reduceLT, Int.reduceLE, Int.reduceEq, Nat.reduceLeDiff, Nat.reduceLT, Nat.reduceMul, Nat.reduceAdd, String.reduceEq, encE_eq, k1, k2, k3, k4, k5]
    refine cal_eq hsub ?_
    simp only [go_sem, Nat.reduceEqDiff, Nat.reduceBEq, Int.reduceToNat, Int.reduceLT, Int.reduceLE, Int.reduceEq, Nat.reduceLeDiff, Nat.reduceLT, Nat.reduceMul, Nat.reduceAdd, String.reduceEq]
    refine hQ .ret _ ?_; exact post_ret _ _ (.tup [ii 1, ii (1 + X.1)]) (by simp only [go_sem, Nat.reduceEqDiff, Nat.reduceBEq, Int.reduceToNat, Int.reduceLT, Int.reduceLE, Int.reduceEq, Nat.reduceLeDiff, Nat.reduceLT, Nat.reduceMul, Nat.reduceAdd, String.reduceEq]) rfl (DropW.ck0 B cs (X.2) R rw_) ⟨by rw [hgo], by rw [hgo]⟩
  rw [if_neg k5] at hgo
  have ne : ∀ a b : ByteArray, e.s = a → a ≠ b → ¬ e.s = b := fun a b h1 h2 h3 => h2 (h1.symm.trans h3)
  by_cases s1 : e.s = qAnd ∨ e.s = qOr
  · rw [if_pos s1] at hgo
    rcases s1 with hs | hs
    · -- and
      have hsub := (hA 2 cs).mem B R rw_
      rw [encE_eq, show e.s = ⟨#[38, 38]⟩ from hs] at hsub
      generalize cargs e.a 2 cs = X at hgo hsub
      refine TS.of [3] fun Q hQ => ?_
      simp only [go_sem, Nat.reduceEqDiff, Nat.reduceBEq, Int.reduceToNat, Int.reduceLT, Int.reduceLE, Int.reduceEq, Nat.reduceLeDiff, Nat.reduceLT, Nat.reduceMul, Nat.reduceAdd, String.reduceEq, encE_eq, k1, k2, k3, k4, k5, show e.s = ⟨#[38, 38]⟩ from hs]
      refine cal_eq hsub ?_
      simp only [go_sem, Nat.reduceEqDiff, Nat.reduceBEq, Int.reduceToNat, Int.reduceLT, Int.reduceLE, Int.reduceEq, Nat.reduceLeDiff, Nat.reduceLT, Nat.reduceMul, Nat.reduceAdd, String.reduceEq]
      refine hQ .ret _ ?_; exact post_ret _ _ (.tup [ii 2, ii (1 + X.1)]) (by simp only [go_sem, Nat.reduceEqDiff, Nat.reduceBEq, Int.reduceToNat, Int.reduceLT, Int.reduceLE, Int.reduceEq, Nat.reduceLeDiff, Nat.reduceLT, Nat.reduceMul, Nat.reduceAdd, String.reduceEq]) rfl (DropW.ck0 B cs (X.2) R rw_) ⟨by rw [hgo], by rw [hgo]⟩
    · -- or
      have w0 : ¬ ((⟨#[124, 124]⟩ : ByteArray) = ⟨#[38, 38]⟩) := by decide
      have hsub := (hA 2 cs).mem B R rw_
      rw [encE_eq, show e.s = ⟨#[124, 124]⟩ from hs] at hsub
      generalize cargs e.a 2 cs = X at hgo hsub
      refine TS.of [3] fun Q hQ => ?_
      simp only [go_sem, Nat.reduceEqDiff, Nat.reduceBEq, Int.reduceToNat, Int.reduceLT, Int.reduceLE, Int.reduceEq, Nat.reduceLeDiff, Nat.reduceLT, Nat.reduceMul, Nat.reduceAdd, String.reduceEq, encE_eq, k1, k2, k3, k4, k5, show e.s = ⟨#[124, 124]⟩ from hs, w0]
      refine cal_eq hsub ?_
      simp only [go_sem, Nat.reduceEqDiff, Nat.reduceBEq, Int.reduceToNat, Int.reduceLT, Int.reduceLE, Int.reduceEq, Nat.reduceLeDiff, Nat.reduceLT, Nat.reduceMul, Nat.reduceAdd, String.reduceEq]
      refine hQ .ret _ ?_; exact post_ret _ _ (.tup [ii 2, ii (1 + X.1)]) (by simp only [go_sem, Nat.reduceEqDiff, Nat.reduceBEq, Int.reduceToNat, Int.reduceLT, Int.reduceLE, Int.reduceEq, Nat.reduceLeDiff, Nat.reduceLT, Nat.reduceMul, Nat.reduceAdd, String.reduceEq]) rfl (DropW.ck0 B cs (X.2) R rw_) ⟨by rw [hgo], by rw [hgo]⟩
  rw [if_neg s1] at hgo
  have n1 : ¬ e.s = ⟨#[38, 38]⟩ := fun h => s1 (.inl h)
  have n2 : ¬ e.s = ⟨#[124, 124]⟩ := fun h => s1 (.inr h)
  by_cases s2 : e.s = qLt ∨ e.s = qLe ∨ e.s = qGt ∨ e.s = qGe
  · rw [if_pos s2] at hgo
    rcases s2 with hs | hs | hs | hs
    · -- <
      have w0 : ¬ ((⟨#[60]⟩ : ByteArray) = ⟨#[38, 38]⟩) := by decide
      have w1 : ¬ ((⟨#[60]⟩ : ByteArray) = ⟨#[124, 124]⟩) := by decide
      have hsub := (hA 1 cs).mem B R rw_
      rw [encE_eq, show e.s = ⟨#[60]⟩ from hs] at hsub
      generalize cargs e.a 1 cs = X at hgo hsub
      refine TS.of [3] fun Q hQ => ?_
      simp only [go_sem, Nat.reduceEqDiff, Nat.reduceBEq, Int.reduceToNat, Int.reduceLT, Int.reduceLE, Int.reduceEq, Nat.reduceLeDiff, Nat.reduceLT, Nat.reduceMul, Nat.reduceAdd, String.reduceEq, encE_eq, k1, k2, k3, k4, k5, show e.s = ⟨#[60]⟩ from hs, w0, w1]
      refine cal_eq hsub ?_
      simp only [go_sem, Nat.reduceEqDiff, Nat.reduceBEq, Int.reduceToNat, Int.reduceLT, Int.reduceLE, Int.reduceEq, Nat.reduceLeDiff, Nat.reduceLT, Nat.reduceMul, Nat.reduceAdd, String.reduceEq]
      refine hQ .ret _ ?_; exact post_ret _ _ (.tup [ii 2, ii (1 + X.1)]) (by simp only [go_sem, Nat.reduceEqDiff, Nat.reduceBEq, Int.reduceToNat, Int.reduceLT, Int.reduceLE, Int.reduceEq, Nat.reduceLeDiff, Nat.reduceLT, Nat.reduceMul, Nat.reduceAdd, String.reduceEq]) rfl (DropW.ck0 B cs (X.2) R rw_) ⟨by rw [hgo], by rw [hgo]⟩
    · -- <=
      have w0 : ¬ ((⟨#[60, 61]⟩ : ByteArray) = ⟨#[38, 38]⟩) := by decide
      have w1 : ¬ ((⟨#[60, 61]⟩ : ByteArray) = ⟨#[124, 124]⟩) := by decide
      have w2 : ¬ ((⟨#[60, 61]⟩ : ByteArray) = ⟨#[60]⟩) := by decide
      have hsub := (hA 1 cs).mem B R rw_
      rw [encE_eq, show e.s = ⟨#[60, 61]⟩ from hs] at hsub
      generalize cargs e.a 1 cs = X at hgo hsub
      refine TS.of [3] fun Q hQ => ?_
      simp only [go_sem, Nat.reduceEqDiff, Nat.reduceBEq, Int.reduceToNat, Int.reduceLT, Int.reduceLE, Int.reduceEq, Nat.reduceLeDiff, Nat.reduceLT, Nat.reduceMul, Nat.reduceAdd, String.reduceEq, encE_eq, k1, k2, k3, k4, k5, show e.s = ⟨#[60, 61]⟩ from hs, w0, w1, w2]
      refine cal_eq hsub ?_
      simp only [go_sem, Nat.reduceEqDiff, Nat.reduceBEq, Int.reduceToNat, Int.reduceLT, Int.reduceLE, Int.reduceEq, Nat.reduceLeDiff, Nat.reduceLT, Nat.reduceMul, Nat.reduceAdd, String.reduceEq]
      refine hQ .ret _ ?_; exact post_ret _ _ (.tup [ii 2, ii (1 + X.1)]) (by simp only [go_sem, Nat.reduceEqDiff, Nat.reduceBEq, Int.reduceToNat, Int.reduceLT, Int.reduceLE, Int.reduceEq, Nat.reduceLeDiff, Nat.reduceLT, Nat.reduceMul, Nat.reduceAdd, String.reduceEq]) rfl (DropW.ck0 B cs (X.2) R rw_) ⟨by rw [hgo], by rw [hgo]⟩
    · -- >
      have w0 : ¬ ((⟨#[62]⟩ : ByteArray) = ⟨#[38, 38]⟩) := by decide
      have w1 : ¬ ((⟨#[62]⟩ : ByteArray) = ⟨#[124, 124]⟩) := by decide
      have w2 : ¬ ((⟨#[62]⟩ : ByteArray) = ⟨#[60]⟩) := by decide
      have w3 : ¬ ((⟨#[62]⟩ : ByteArray) = ⟨#[60, 61]⟩) := by decide
      have hsub := (hA 1 cs).mem B R rw_
      rw [encE_eq, show e.s = ⟨#[62]⟩ from hs] at hsub
      generalize cargs e.a 1 cs = X at hgo hsub
      refine TS.of [3] fun Q hQ => ?_
      simp only [go_sem, Nat.reduceEqDiff, Nat.reduceBEq, Int.reduceToNat, Int.reduceLT, Int.reduceLE, Int.reduceEq, Nat.reduceLeDiff, Nat.reduceLT, Nat.reduceMul, Nat.reduceAdd, String.reduceEq, encE_eq, k1, k2, k3, k4, k5, show e.s = ⟨#[62]⟩ from hs, w0, w1, w2, w3]
      refine cal_eq hsub ?_
      simp only [go_sem, Nat.reduceEqDiff, Nat.reduceBEq, Int.reduceToNat, Int.reduceLT, Int.reduceLE, Int.reduceEq, Nat.reduceLeDiff, Nat.reduceLT, Nat.reduceMul, Nat.reduceAdd, String.reduceEq]
      refine hQ .ret _ ?_; exact post_ret _ _ (.tup [ii 2, ii (1 + X.1)]) (by simp only [go_sem, Nat.reduceEqDiff, Nat.reduceBEq, Int.reduceToNat, Int.reduceLT, Int.reduceLE, Int.reduceEq, Nat.reduceLeDiff, Nat.reduceLT, Nat.reduceMul, Nat.reduceAdd, String.reduceEq]) rfl (DropW.ck0 B cs (X.2) R rw_) ⟨by rw [hgo], by rw [hgo]⟩
    · -- >=
      have w0 : ¬ ((⟨#[62, 61]⟩ : ByteArray) = ⟨#[38, 38]⟩) := by decide
      have w1 : ¬ ((⟨#[62, 61]⟩ : ByteArray) = ⟨#[124, 124]⟩) := by decide
      have w2 : ¬ ((⟨#[62, 61]⟩ : ByteArray) = ⟨#[60]⟩) := by decide
      have w3 : ¬ ((⟨#[62, 61]⟩ : ByteArray) = ⟨#[60, 61]⟩) := by decide
      have w4 : ¬ ((⟨#[62, 61]⟩ : ByteArray) = ⟨#[62]⟩) := by decide
      have hsub := (hA 1 cs).mem B R rw_
      rw [encE_eq, show e.s = ⟨#[62, 61]⟩ from hs] at hsub
      generalize cargs e.a 1 cs = X at hgo hsub
      refine TS.of [3] fun Q hQ => ?_
      simp only [go_sem, Nat.reduceEqDiff, Nat.reduceBEq, Int.reduceToNat, Int.reduceLT, Int.reduceLE, Int.reduceEq, Nat.reduceLeDiff, Nat.reduceLT, Nat.reduceMul, Nat.reduceAdd, String.reduceEq, encE_eq, k1, k2, k3, k4, k5, show e.s = ⟨#[62, 61]⟩ from hs, w0, w1, w2, w3, w4]
      refine cal_eq hsub ?_
      simp only [go_sem, Nat.reduceEqDiff, Nat.reduceBEq, Int.reduceToNat, Int.reduceLT, Int.reduceLE, Int.reduceEq, Nat.reduceLeDiff, Nat.reduceLT, Nat.reduceMul, Nat.reduceAdd, String.reduceEq]
      refine hQ .ret _ ?_; exact post_ret _ _ (.tup [ii 2, ii (1 + X.1)]) (by simp only [go_sem, Nat.reduceEqDiff, Nat.reduceBEq, Int.reduceToNat, Int.reduceLT, Int.reduceLE, Int.reduceEq, Nat.reduceLeDiff, Nat.reduceLT, Nat.reduceMul, Nat.reduceAdd, String.reduceEq]) rfl (DropW.ck0 B cs (X.2) R rw_) ⟨by rw [hgo], by rw [hgo]⟩
  rw [if_neg s2] at hgo
  have n3 : ¬ e.s = ⟨#[60]⟩ := fun h => s2 (.inl h)
  have n4 : ¬ e.s = ⟨#[60, 61]⟩ := fun h => s2 (.inr (.inl h))
  have n5 : ¬ e.s = ⟨#[62]⟩ := fun h => s2 (.inr (.inr (.inl h)))
  have n6 : ¬ e.s = ⟨#[62, 61]⟩ := fun h => s2 (.inr (.inr (.inr h)))
  by_cases s3 : e.s = qEq ∨ e.s = qNe
  · rw [if_pos s3] at hgo
    by_cases hl2 : e.a.length = 2
    · rw [if_pos hl2] at hgo
      obtain ⟨x, y, hxy⟩ : ∃ x y, e.a = [x, y] := by
        match ha : e.a, hl2 with
        | [x, y], _ => exact ⟨x, y, rfl⟩
      rw [hxy, ceq_two] at hgo
      have hszs : szs e.a = szE x + szE y := by rw [hxy]; simp [szs]
      have hpos : 1 ≤ szE x ∧ 1 ≤ szE y := ⟨by rw [szE_eq]; omega, by rw [szE_eq]; omega⟩
      have hsub := (ihE (szE x) (by omega) x cs (Nat.le_refl _)).mem B R rw_
      have hx := cexpr_le x cs
      generalize cexpr x cs = X at hgo hsub hx
      have hsub2 := (ihW (szE y) (by omega) y X.1 X.2.2 (Nat.le_refl _)).mem B R rw_
      have hy : 0 ≤ (cwant y X.1 X.2.2).1 ∧ (cwant y X.1 X.2.2).1 ≤ szE y := cexpr_le y X.2.2
      generalize cwant y X.1 X.2.2 = Y at hgo hsub2 hy
      rw [encE_eq] at hsub hsub2
      have w1 : IntKind.i64.wrap (1 + X.2.1) = 1 + X.2.1 := wrap_small (by omega) (by omega)
      have w2 : IntKind.i64.wrap (1 + X.2.1 + Y.1) = 1 + (X.2.1 + Y.1) := by rw [wrap_small (by omega) (by omega)]; omega
      rcases s3 with hs | hs
      · have n7 : e.s = ⟨#[61, 61]⟩ := hs
        refine TS.of [3] fun Q hQ => ?_
        simp only [go_sem, Nat.reduceEqDiff, Nat.reduceBEq, Int.reduceToNat, Int.reduceLT, Int.reduceLE, Int.reduceEq, Nat.reduceLeDiff, Nat.reduceLT, Nat.reduceMul, Nat.reduceAdd, String.reduceEq, encE_eq, encEs, hxy, k1, k2, k3, k4, k5, n1, n2, n3, n4, n5, n6, n7, show ¬ ((⟨#[61, 61]⟩ : ByteArray) = ⟨#[38, 38]⟩) by decide, show ¬ ((⟨#[61, 61]⟩ : ByteArray) = ⟨#[124, 124]⟩) by decide, show ¬ ((⟨#[61, 61]⟩ : ByteArray) = ⟨#[60]⟩) by decide, show ¬ ((⟨#[61, 61]⟩ : ByteArray) = ⟨#[60, 61]⟩) by decide, show ¬ ((⟨#[61, 61]⟩ : ByteArray) = ⟨#[62]⟩) by decide, show ¬ ((⟨#[61, 61]⟩ : ByteArray) = ⟨#[62, 61]⟩) by decide]
        refine cal_eq hsub ?_
        simp only [go_sem, Nat.reduceEqDiff, Nat.reduceBEq, Int.reduceToNat, Int.reduceLT, Int.reduceLE, Int.reduceEq, Nat.reduceLeDiff, Nat.reduceLT, Nat.reduceMul, Nat.reduceAdd, String.reduceEq, w1]
        refine cal_eq hsub2 ?_
        simp only [go_sem, Nat.reduceEqDiff, Nat.reduceBEq, Int.reduceToNat, Int.reduceLT, Int.reduceLE, Int.reduceEq, Nat.reduceLeDiff, Nat.reduceLT, Nat.reduceMul, Nat.reduceAdd, String.reduceEq, w2]
        refine hQ .ret _ ?_; exact post_ret _ _ (.tup [ii 2, ii (1 + (X.2.1 + Y.1))]) (by simp only [go_sem, Nat.reduceEqDiff, Nat.reduceBEq, Int.reduceToNat, Int.reduceLT, Int.reduceLE, Int.reduceEq, Nat.reduceLeDiff, Nat.reduceLT, Nat.reduceMul, Nat.reduceAdd, String.reduceEq]) rfl (DropW.ck0 B cs (Y.2) R rw_) ⟨by rw [hgo], by rw [hgo]⟩
      · have n7 : e.s = ⟨#[33, 61]⟩ := hs
        refine TS.of [3] fun Q hQ => ?_
        simp only [go_sem, Nat.reduceEqDiff, Nat.reduceBEq, Int.reduceToNat, Int.reduceLT, Int.reduceLE, Int.reduceEq, Nat.reduceLeDiff, Nat.reduceLT, Nat.reduceMul, Nat.reduceAdd, String.reduceEq, encE_eq, encEs, hxy, k1, k2, k3, k4, k5, n1, n2, n3, n4, n5, n6, n7, show ¬ ((⟨#[33, 61]⟩ : ByteArray) = ⟨#[38, 38]⟩) by decide, show ¬ ((⟨#[33, 61]⟩ : ByteArray) = ⟨#[124, 124]⟩) by decide, show ¬ ((⟨#[33, 61]⟩ : ByteArray) = ⟨#[60]⟩) by decide, show ¬ ((⟨#[33, 61]⟩ : ByteArray) = ⟨#[60, 61]⟩) by decide, show ¬ ((⟨#[33, 61]⟩ : ByteArray) = ⟨#[62]⟩) by decide, show ¬ ((⟨#[33, 61]⟩ : ByteArray) = ⟨#[62, 61]⟩) by decide, show ¬ ((⟨#[33, 61]⟩ : ByteArray) = ⟨#[61, 61]⟩) by decide]
        refine cal_eq hsub ?_
        simp only [go_sem, Nat.reduceEqDiff, Nat.reduceBEq, Int.reduceToNat, Int.reduceLT, Int.reduceLE, Int.reduceEq, Nat.reduceLeDiff, Nat.reduceLT, Nat.reduceMul, Nat.reduceAdd, String.reduceEq, w1]
        refine cal_eq hsub2 ?_
        simp only [go_sem, Nat.reduceEqDiff, Nat.reduceBEq, Int.reduceToNat, Int.reduceLT, Int.reduceLE, Int.reduceEq, Nat.reduceLeDiff, Nat.reduceLT, Nat.reduceMul, Nat.reduceAdd, String.reduceEq, w2]
        refine hQ .ret _ ?_; exact post_ret _ _ (.tup [ii 2, ii (1 + (X.2.1 + Y.1))]) (by simp only [go_sem, Nat.reduceEqDiff, Nat.reduceBEq, Int.reduceToNat, Int.reduceLT, Int.reduceLE, Int.reduceEq, Nat.reduceLeDiff, Nat.reduceLT, Nat.reduceMul, Nat.reduceAdd, String.reduceEq]) rfl (DropW.ck0 B cs (Y.2) R rw_) ⟨by rw [hgo], by rw [hgo]⟩
    · rw [if_neg hl2] at hgo
      have hl3 : ¬ ((e.a.length : Int) = 2) := by omega
      rcases s3 with hs | hs
      · have n7 : e.s = ⟨#[61, 61]⟩ := hs
        refine TS.of [3] fun Q hQ => ?_
        simp only [go_sem, Nat.reduceEqDiff, Nat.reduceBEq, Int.reduceToNat, Int.reduceLT, Int.reduceLE, Int.reduceEq, Nat.reduceLeDiff, Nat.reduceLT, Nat.reduceMul, Nat.reduceAdd, String.reduceEq, encE_eq, hl3, k1, k2, k3, k4, k5, n1, n2, n3, n4, n5, n6, n7, show ¬ ((⟨#[61, 61]⟩ : ByteArray) = ⟨#[38, 38]⟩) by decide, show ¬ ((⟨#[61, 61]⟩ : ByteArray) = ⟨#[124, 124]⟩) by decide, show ¬ ((⟨#[61, 61]⟩ : ByteArray) = ⟨#[60]⟩) by decide, show ¬ ((⟨#[61, 61]⟩ : ByteArray) = ⟨#[60, 61]⟩) by decide, show ¬ ((⟨#[61, 61]⟩ : ByteArray) = ⟨#[62]⟩) by decide, show ¬ ((⟨#[61, 61]⟩ : ByteArray) = ⟨#[62, 61]⟩) by decide]
        refine hQ .ret _ ?_; exact post_ret _ _ (.tup [ii 2, ii 1]) (by simp only [go_sem, Nat.reduceEqDiff, Nat.reduceBEq, Int.reduceToNat, Int.reduceLT, Int.reduceLE, Int.reduceEq, Nat.reduceLeDiff, Nat.reduceLT, Nat.reduceMul, Nat.reduceAdd, String.reduceEq]) rfl (DropW.ck0 B cs (cs) R rw_) ⟨by rw [hgo], by rw [hgo]⟩
      · have n7 : e.s = ⟨#[33, 61]⟩ := hs
        refine TS.of [3] fun Q hQ => ?_
        simp only [go_sem, Nat.reduceEqDiff, Nat.reduceBEq, Int.reduceToNat, Int.reduceLT, Int.reduceLE, Int.reduceEq, Nat.reduceLeDiff, Nat.reduceLT, Nat.reduceMul, Nat.reduceAdd, String.reduceEq, encE_eq, hl3, k1, k2, k3, k4, k5, n1, n2, n3, n4, n5, n6, n7, show ¬ ((⟨#[33, 61]⟩ : ByteArray) = ⟨#[38, 38]⟩) by decide, show ¬ ((⟨#[33, 61]⟩ : ByteArray) = ⟨#[124, 124]⟩) by decide, show ¬ ((⟨#[33, 61]⟩ : ByteArray) = ⟨#[60]⟩) by decide, show ¬ ((⟨#[33, 61]⟩ : ByteArray) = ⟨#[60, 61]⟩) by decide, show ¬ ((⟨#[33, 61]⟩ : ByteArray) = ⟨#[62]⟩) by decide, show ¬ ((⟨#[33, 61]⟩ : ByteArray) = ⟨#[62, 61]⟩) by decide, show ¬ ((⟨#[33, 61]⟩ : ByteArray) = ⟨#[61, 61]⟩) by decide]
        refine hQ .ret _ ?_; exact post_ret _ _ (.tup [ii 2, ii 1]) (by simp only [go_sem, Nat.reduceEqDiff, Nat.reduceBEq, Int.reduceToNat, Int.reduceLT, Int.reduceLE, Int.reduceEq, Nat.reduceLeDiff, Nat.reduceLT, Nat.reduceMul, Nat.reduceAdd, String.reduceEq]) rfl (DropW.ck0 B cs (cs) R rw_) ⟨by rw [hgo], by rw [hgo]⟩
  · rw [if_neg s3] at hgo
    have n7 : ¬ e.s = ⟨#[61, 61]⟩ := fun h => s3 (.inl h)
    have n8 : ¬ e.s = ⟨#[33, 61]⟩ := fun h => s3 (.inr h)
    have hsub := (hA 1 cs).mem B R rw_
    rw [encE_eq] at hsub
    generalize cargs e.a 1 cs = X at hgo hsub
    refine TS.of [3] fun Q hQ => ?_
    simp only [go_sem, Nat.reduceEqDiff, Nat.reduceBEq, Int.reduceToNat, Int.reduceLT, Int.reduceLE, Int.reduceEq, Nat.reduceLeDiff, Nat.reduceLT, Nat.reduceMul, Nat.reduceAdd, String.reduceEq, encE_eq, k1, k2, k3, k4, k5, n1, n2, n3, n4, n5, n6, n7, n8]
    refine cal_eq hsub ?_
    simp only [go_sem, Nat.reduceEqDiff, Nat.reduceBEq, Int.reduceToNat, Int.reduceLT, Int.reduceLE, Int.reduceEq, Nat.reduceLeDiff, Nat.reduceLT, Nat.reduceMul, Nat.reduceAdd, String.reduceEq]
    refine hQ .ret _ ?_; exact post_ret _ _ (.tup [ii 1, ii (1 + X.1)]) (by simp only [go_sem, Nat.reduceEqDiff, Nat.reduceBEq, Int.reduceToNat, Int.reduceLT, Int.reduceLE, Int.reduceEq, Nat.reduceLeDiff, Nat.reduceLT, Nat.reduceMul, Nat.reduceAdd, String.reduceEq]) rfl (DropW.ck0 B cs (X.2) R rw_) ⟨by rw [hgo], by rw [hgo]⟩
theorem check_expr : ∀ N, N < 900000 → EC N ∧ WC N ∧ AC N := by
  intro N
  induction N using Nat.strongRecOn with
  | ind N ih =>
    intro hN
    have hE : EC N := expr_cstep hN (fun M h => (ih M h (by omega)).1) (fun M h => (ih M h (by omega)).2.1) (fun M h => (ih M h (by omega)).2.2)
    exact ⟨hE, want_step hE, args_step hN (want_step hE)⟩
theorem cexpr_sim (e : Expr) (cs : CS) (h : szE e < 900000) : SimC 81 [.agg (encE e)] cs (.tup [ii (cexpr e cs).1, ii (cexpr e cs).2.1]) (cexpr e cs).2.2 := (check_expr _ h).1 e cs (Nat.le_refl _)
theorem cwant_sim (e : Expr) (kind : Int) (cs : CS) (h : szE e < 900000) : SimC 58 [.agg (encE e), ii kind] cs (ii (cwant e kind cs).1) (cwant e kind cs).2 := (check_expr _ h).2.1 e kind cs (Nat.le_refl _)
end Go.Proofs.Ytphjldhdnmoolaa.A
/- The walks of some functions over the abstract machine. -/
namespace Go.Proofs.Ytphjldhdnmoolaa.A
open Go
def CS.changes (kind : Int) (cs : CS) : CS :=
  let c1 := { cs with md := if cs.md < (if kind = 3 ∨ kind = 4 then 2 else 3) then (if kind = 3 ∨ kind = 4 then 2 else 3) else cs.md }
  if kind = 2 then { c1 with tn := false } else c1
def clet : List Expr → Int → Int → CS → Int × Int × CS
  | [], k, n, cs => (k, n, cs)
  | e :: l, _, _, cs => clet l (cexpr e cs).1 (cexpr e cs).2.1 (cexpr e cs).2.2
def CS.dels : List Bytes → CS → CS
  | [], cs => cs
  | s :: l, cs => CS.dels l { cs with kn := delM s cs.kn }
mutual
def cstmt : Stmt → CS → Int × CS
  | .mk k s x n b e p, cs =>
    if k = 1 then (1 + (clet x 0 0 cs).2.1, (clet x 0 0 cs).2.2.declare s (clet x 0 0 cs).1 p)
    else if k = 6 then
      (1 + (cargs x 2 cs).1 + (if (cloop b [] 0 (cargs x 2 cs).2).1 < (cloop e [] 0 (cloop b [] 0 (cargs x 2 cs).2).2).1 then (cloop e [] 0 (cloop b [] 0 (cargs x 2 cs).2).2).1 else (cloop b [] 0 (cargs x 2 cs).2).1),
        (cloop e [] 0 (cloop b [] 0 (cargs x 2 cs).2).2).2)
    else if k = 7 ∨ k = 8 then
      if 64 < n then (1, (cs.declare s 1 p).fail 11 p)
      else (1 + n * (if 2049 < 1 + (cloop b [s] 0 (cs.declare s 1 p)).1 then 2049 else 1 + (cloop b [s] 0 (cs.declare s 1 p)).1), (cloop b [s] 0 (cs.declare s 1 p)).2)
    else (1 + (cargs x 1 (cs.changes k)).1, (cargs x 1 (cs.changes k)).2)
def cloop : List Stmt → List Bytes → Int → CS → Int × CS
  | [], also, n, cs => (n, cs.dels also)
  | s :: l, also, n, cs =>
    if (cstmt s cs).2.ft.isSome then (0, (cstmt s cs).2)
    else cloop l (if s.k = 1 then also ++ [s.s] else also) (n + (cstmt s cs).1) (cstmt s cs).2
end
-- loops go upward, lets have a value
mutual
def fineT : Stmt → Prop
  | .mk k _ x n b e _ => 0 ≤ n ∧ (k = 1 → x ≠ []) ∧ fineTs b ∧ fineTs e
def fineTs : List Stmt → Prop
  | [] => True
  | s :: l => fineT s ∧ fineTs l
end
/-- Names stay as they are. -/
def names (a b : CS) : Prop := b.kn = a.kn ∧ b.kc = a.kc ∧ b.us = a.us ∧ b.uc = a.uc ∧ (a.ft ≠ none → b.ft ≠ none)
theorem names.refl (a : CS) : names a a := ⟨rfl, rfl, rfl, rfl, id⟩
theorem names.trans {a b c : CS} (h : names a b) (g : names b c) : names a c := ⟨g.1.trans h.1, g.2.1.trans h.2.1, g.2.2.1.trans h.2.2.1, g.2.2.2.1.trans h.2.2.2.1, fun x => g.2.2.2.2 (h.2.2.2.2 x)⟩
theorem names.fail (a : CS) (c p : Int) : names a (a.fail c p) := by
  unfold CS.fail; split
  · exact ⟨rfl, rfl, rfl, rfl, fun _ => by simp⟩
  · exact names.refl a
theorem CS.ok.names {a b : CS} (h : a.ok) (g : names a b) : b.ok := by
  obtain ⟨g1, g2, g3, g4, _⟩ := g
  exact ⟨by rw [g1, g2]; exact h.kb, by rw [g3, g4]; exact h.ub, by rw [g3]; exact h.pos, by rw [g1, g3]; exact h.sub, by rw [g1]; exact h.kpos, by rw [g3]; exact h.ul⟩
mutual
theorem cexpr_names : ∀ (e : Expr) (cs : CS), names cs (cexpr e cs).2.2
  | .mk k _ s a p, cs => by
    unfold cexpr
    have h0 := cargs_names a 1 { cs with rd := true }
    have h1 := cargs_names a 1 cs
    have h2 := cargs_names a 2 cs
    have h3 := ceq_names a cs
    have h4 := names.fail cs 9 p
    repeat' split
    all_goals first | exact names.refl cs | exact h0 | exact h1 | exact h2 | exact h3 | exact h4
theorem cargs_names : ∀ (l : List Expr) (kind : Int) (cs : CS), names cs (cargs l kind cs).2
  | [], kind, cs => names.refl cs
  | e :: l, kind, cs => by
    rw [cargs]
    have h1 := cexpr_names e cs
    have h2 := cargs_names l kind (if (cexpr e cs).1 = kind then (cexpr e cs).2.2 else (cexpr e cs).2.2.fail 10 e.p)
    refine names.trans ?_ h2
    split
    · exact h1
    · exact h1.trans (names.fail _ _ _)
theorem ceq_names : ∀ (l : List Expr) (cs : CS), names cs (ceq l cs).2
  | [], cs => names.refl cs
  | e :: l, cs => by
    rw [ceq]
    exact (cexpr_names e cs).trans (cargs_names l _ _)
end
theorem cwant_names (e : Expr) (kind : Int) (cs : CS) : names cs (cwant e kind cs).2 := by
  unfold cwant
  dsimp only
  split
  · exact cexpr_names e cs
  · exact (cexpr_names e cs).trans (names.fail _ _ _)
theorem cexpr_pos (e : Expr) (cs : CS) (h : cs.ok) : (cexpr e cs).2.2.ft = none → 0 < (cexpr e cs).1 := by
  cases e with
  | mk k n s a p =>
    unfold cexpr
    repeat' split
    all_goals first
      | (intro _; dsimp only; omega; done)
      | (rename_i v hv; intro _; obtain ⟨e', h1, _, h3⟩ := getM_mem hv; have := h.kpos e' h1; dsimp only; omega)
      | (intro hf; exfalso; dsimp only at hf; unfold CS.fail at hf; split at hf
         · cases hf
         · rename_i hn; rw [hf] at hn; exact hn rfl)
theorem clet_names : ∀ (l : List Expr) (k n : Int) (cs : CS), names cs (clet l k n cs).2.2
  | [], k, n, cs => names.refl cs
  | e :: l, k, n, cs => by rw [clet]; exact (cexpr_names e cs).trans (clet_names l _ _ _)
theorem clet_pos : ∀ (l : List Expr) (k n : Int) (cs : CS), cs.ok → (l ≠ [] ∨ (cs.ft = none → 0 < k)) → (clet l k n cs).2.2.ft = none → 0 < (clet l k n cs).1
  | [], k, n, cs, h, hk, hf => by
    rcases hk with hk | hk
    · exact absurd rfl hk
    · exact hk hf
  | e :: l, k, n, cs, h, hk, hf => by
    rw [clet] at hf ⊢
    exact clet_pos l _ _ _ (h.names (cexpr_names e cs)) (.inr (cexpr_pos e cs h)) hf
theorem clet_le : ∀ (l : List Expr) (k n : Int) (cs : CS), 0 ≤ n → 0 ≤ (clet l k n cs).2.1 ∧ (clet l k n cs).2.1 ≤ n + szs l
  | [], k, n, cs, h => by simp [clet, szs, h]
  | e :: l, k, n, cs, h => by
    rw [clet, szs]
    have h1 := cexpr_le e cs
    have h2 := clet_le l (cexpr e cs).1 (cexpr e cs).2.1 (cexpr e cs).2.2 h1.1
    omega
theorem getM_app {s : Bytes} : ∀ {l : List Ent} {x : Ent}, getM s (l ++ [x]) = none ↔ getM s l = none ∧ s ≠ x.1
  | [], x => by simp only [List.nil_append, getM, true_and]; split <;> simp_all
  | e :: l, x => by
    simp only [List.cons_append, getM]
    split
    · simp
    · exact getM_app
theorem CS.ok.declare {cs : CS} (h : cs.ok) (name : Bytes) {kind : Int} (hk : cs.ft = none → 0 < kind) (p : Int) : (cs.declare name kind p).ok := by
  unfold CS.declare
  split
  · exact h
  · rename_i hf
    split
    · exact h.names (names.fail _ _ _)
    · split
      · exact h.names (names.fail _ _ _)
      · rename_i h3
        have hk' : 0 < kind := hk (by cases hc : cs.ft <;> simp_all)
        refine ⟨?_, ?_, ?_, ?_, ?_, ?_⟩
        · intro e he; rcases List.mem_append.1 he with he | he
          · have := h.kb e he; dsimp only; omega
          · simp at he; subst he; dsimp only; omega
        · intro e he; rcases List.mem_append.1 he with he | he
          · have := h.ub e he; dsimp only; omega
          · simp at he; subst he; dsimp only; omega
        · intro e he; rcases List.mem_append.1 he with he | he
          · exact h.pos e he
          · simp at he; subst he; exact hk'
        · intro s hs
          dsimp only at hs ⊢
          rw [getM_app] at hs ⊢
          exact ⟨h.sub s hs.1, hs.2⟩
        · intro e he; rcases List.mem_append.1 he with he | he
          · exact h.kpos e he
          · simp at he; subst he; exact hk'
        · dsimp only; simp; omega
theorem delM_sub {s : Bytes} : ∀ {l : List Ent} {e : Ent}, e ∈ delM s l → e ∈ l
  | [], e, h => by cases h
  | x :: l, e, h => by
    unfold delM at h
    split at h
    · exact List.mem_cons_of_mem _ h
    · cases h with
      | head => exact List.mem_cons_self ..
      | tail _ h => exact List.mem_cons_of_mem _ (delM_sub h)
theorem delM_get {s t : Bytes} : ∀ {l : List Ent}, getM t l = none → getM t (delM s l) = none
  | [], h => rfl
  | x :: l, h => by
    unfold getM at h
    split at h
    · cases h
    · rename_i hx
      unfold delM
      split
      · exact h
      · unfold getM; rw [if_neg hx]; exact delM_get h
theorem CS.ok.del {cs : CS} (h : cs.ok) (s : Bytes) : CS.ok { cs with kn := delM s cs.kn } :=
  ⟨fun e he => h.kb e (delM_sub he), h.ub, h.pos, fun t ht => delM_get (h.sub t ht), fun e he => h.kpos e (delM_sub he), h.ul⟩
theorem CS.ok.dels : ∀ {l : List Bytes} {cs : CS}, cs.ok → (cs.dels l).ok
  | [], cs, h => h
  | s :: l, cs, h => by rw [CS.dels]; exact CS.ok.dels (h.del s)
theorem names_changes (cs : CS) (k : Int) : names cs (cs.changes k) := by
  unfold CS.changes; dsimp only; split <;> exact ⟨rfl, rfl, rfl, rfl, id⟩
mutual
theorem cstmt_ok : ∀ (s : Stmt) (cs : CS), cs.ok → fineT s → (cstmt s cs).2.ok
  | .mk k s x n b e p, cs, h, hf => by
    unfold fineT at hf
    unfold cstmt
    split
    · exact (h.names (clet_names x 0 0 cs)).declare s (clet_pos x 0 0 cs h (.inl (hf.2.1 (by assumption)))) p
    · split
      · exact cloop_ok e [] 0 _ (cloop_ok b [] 0 _ (h.names (cargs_names x 2 cs)) hf.2.2.1) hf.2.2.2
      · split
        · have hd := h.declare s (kind := 1) (fun _ => by decide) p
          split
          · exact hd.names (names.fail _ _ _)
          · exact cloop_ok b [s] 0 _ hd hf.2.2.1
        · exact h.names ((names_changes cs k).trans (cargs_names x 1 _))
theorem cloop_ok : ∀ (l : List Stmt) (also : List Bytes) (n : Int) (cs : CS), cs.ok → fineTs l → (cloop l also n cs).2.ok
  | [], also, n, cs, h, _ => h.dels
  | s :: l, also, n, cs, h, hf => by
    unfold fineTs at hf
    unfold cloop
    have h1 := cstmt_ok s cs h hf.1
    split
    · exact h1
    · exact cloop_ok l _ _ _ h1 hf.2
end
mutual
theorem cstmt_le : ∀ (s : Stmt) (cs : CS), fineT s → 0 ≤ (cstmt s cs).1 ∧ (cstmt s cs).1 ≤ 140000 * (szT s : Int)
  | .mk k s x n b e p, cs, hf => by
    unfold fineT at hf
    unfold cstmt szT
    have hx := clet_le x 0 0 cs (by omega)
    have ha := fun k cs => cargs_le x k cs
    have hb := fun also cs => cloop_le b also 0 cs hf.2.2.1 (by omega)
    have he := fun also cs => cloop_le e also 0 cs hf.2.2.2 (by omega)
    split
    · dsimp only; omega
    · split
      · have h1 := ha 2 cs
        have h2 := hb [] (cargs x 2 cs).2
        have h3 := he [] (cloop b [] 0 (cargs x 2 cs).2).2
        dsimp only
        split <;> omega
      · split
        · split
          · dsimp only; omega
          · rename_i hn
            have h2 := hb [s] (cs.declare s 1 p)
            dsimp only
            generalize (cloop b [s] 0 (cs.declare s 1 p)).1 = q at h2 ⊢
            have hn0 := hf.1
            have hm : (if 2049 < 1 + q then 2049 else 1 + q) ≤ 2049 ∧ 0 ≤ (if 2049 < 1 + q then 2049 else 1 + q) := by split <;> omega
            generalize (if 2049 < 1 + q then 2049 else 1 + q) = z at hm ⊢
            have h5 : n * z ≤ 64 * 2049 := Int.mul_le_mul (by omega) hm.1 hm.2 (by omega)
            have h6 : 0 ≤ n * z := Int.mul_nonneg hn0 hm.2
            omega
        · have h1 := ha 1 (cs.changes k)
          dsimp only; omega
theorem cloop_le : ∀ (l : List Stmt) (also : List Bytes) (n : Int) (cs : CS), fineTs l → 0 ≤ n → 0 ≤ (cloop l also n cs).1 ∧ (cloop l also n cs).1 ≤ n + 140000 * (szt l : Int)
  | [], also, n, cs, _, h => by simp only [cloop, szt]; omega
  | s :: l, also, n, cs, hf, h => by
    unfold fineTs at hf
    unfold cloop szt
    have h1 := cstmt_le s cs hf.1
    split
    · dsimp only; omega
    · have h2 := cloop_le l (if s.k = 1 then also ++ [s.s] else also) (n + (cstmt s cs).1) (cstmt s cs).2 hf.2 (by omega)
      omega
end
end Go.Proofs.Ytphjldhdnmoolaa.A
/- The walks of some functions over the abstract machine. -/
namespace Go.Proofs.Ytphjldhdnmoolaa.A
open Go
theorem DropW.ckR (B : List IObj) (cs cs' : CS) (R X : List IObj) (R0 R1 R2 : List Nat) (h3 : R0.length ≤ R1.length) (h4 : R2.take R1.length = R1) : DropW ⟨CM B cs R, R0⟩ (B.length + (R.length + 3)) R1.length ⟨CM B cs' (R ++ X), R2⟩ ⟨CM B cs' R, R1⟩ := by
  have h := DropW.ck B cs cs' R X R0 []
  exact ⟨h.objs, h4.symm, h.lo, h3, fun o x hx hl => by
    rcases h.np o x hx hl with h0 | h0
    · exact .inl h0
    · simp only [CM] at hx
      by_cases h1 : o < B.length
      · left; rw [List.getElem?_append_left h1] at hx; simp only [CM]; rw [List.getElem?_append_left h1]; exact hx
      · rw [List.getElem?_append_right (by omega)] at hx
        generalize hk : o - B.length = k at hx
        match k, hx with
        | 0, hx => right; simp at hx; subst hx; rfl
        | 1, hx => right; simp at hx; subst hx; rfl
        | 2, hx => right; simp at hx; subst hx; simp [IObj.np, npL, IV.np, np_ft] <;> omega
        | k + 3, hx =>
          left
          simp only [CM]
          rw [List.getElem?_append_right (by omega), hk]
          simp only [List.getElem?_cons_succ] at hx ⊢
          rw [List.getElem?_append_left (by omega)] at hx
          exact hx⟩
set_option maxRecDepth 100000 in
set_option maxHeartbeats 4000000 in
theorem changes_sim (cs : CS) (kind : Int) : SimC 98 [ii kind] cs (.tup []) (cs.changes kind) := by
  intro B R rw_
  refine Sim.ofS 28 [] Try.func98 rfl rfl rfl (by simp) fun wr => ?_
  simp only [go_sem, Nat.reduceEqDiff, Nat.reduceBEq, Int.reduceToNat, Int.reduceLT, Int.reduceLE, Int.reduceEq, Nat.reduceLeDiff, Nat.reduceLT, Nat.reduceMul, Nat.reduceAdd, String.reduceEq]
  by_cases k3 : kind = 3
  · have k4 : ¬ kind = 4 := by omega
    have k2 : ¬ kind = 2 := by omega
    have hgo : cs.changes kind = { cs with md := if cs.md < 2 then 2 else cs.md } := by simp [CS.changes, k3]
    refine TS.of [] fun Q hQ => ?_
    simp only [go_sem, Nat.reduceEqDiff, Nat.reduceBEq, Int.reduceToNat, Int.reduceLT, Int.reduceLE, Int.reduceEq, Nat.reduceLeDiff, Nat.reduceLT, Nat.reduceMul, Nat.reduceAdd, String.reduceEq, k3]
    refine hQ .normal _ ?_; exact post_end _ _ (.tup []) (by simp only [go_sem, Nat.reduceEqDiff, Nat.reduceBEq, Int.reduceToNat, Int.reduceLT, Int.reduceLE, Int.reduceEq, Nat.reduceLeDiff, Nat.reduceLT, Nat.reduceMul, Nat.reduceAdd, String.reduceEq]) rfl (DropW.ck0 B cs ({ cs with md := if cs.md < 2 then 2 else cs.md }) R rw_) ⟨rfl, by rw [hgo]⟩
  · by_cases k4 : kind = 4
    · have hgo : cs.changes kind = { cs with md := if cs.md < 2 then 2 else cs.md } := by simp [CS.changes, k4]
      refine TS.of [] fun Q hQ => ?_
      simp only [go_sem, Nat.reduceEqDiff, Nat.reduceBEq, Int.reduceToNat, Int.reduceLT, Int.reduceLE, Int.reduceEq, Nat.reduceLeDiff, Nat.reduceLT, Nat.reduceMul, Nat.reduceAdd, String.reduceEq, k4]
      refine hQ .normal _ ?_; exact post_end _ _ (.tup []) (by simp only [go_sem, Nat.reduceEqDiff, Nat.reduceBEq, Int.reduceToNat, Int.reduceLT, Int.reduceLE, Int.reduceEq, Nat.reduceLeDiff, Nat.reduceLT, Nat.reduceMul, Nat.reduceAdd, String.reduceEq]) rfl (DropW.ck0 B cs ({ cs with md := if cs.md < 2 then 2 else cs.md }) R rw_) ⟨rfl, by rw [hgo]⟩
    · by_cases k2 : kind = 2
      · have hgo : cs.changes kind = { cs with md := if cs.md < 3 then 3 else cs.md, tn := false } := by simp [CS.changes, k2]
        refine TS.of [] fun Q hQ => ?_
        simp only [go_sem, Nat.reduceEqDiff, Nat.reduceBEq, Int.reduceToNat, Int.reduceLT, Int.reduceLE, Int.reduceEq, Nat.reduceLeDiff, Nat.reduceLT, Nat.reduceMul, Nat.reduceAdd, String.reduceEq, k2]
        refine hQ .normal _ ?_; exact post_end _ _ (.tup []) (by simp only [go_sem, Nat.reduceEqDiff, Nat.reduceBEq, Int.reduceToNat, Int.reduceLT, Int.reduceLE, Int.reduceEq, Nat.reduceLeDiff, Nat.reduceLT, Nat.reduceMul, Nat.reduceAdd, String.reduceEq]) rfl (DropW.ck0 B cs ({ cs with md := if cs.md < 3 then 3 else cs.md, tn := false }) R rw_) ⟨rfl, by rw [hgo]⟩
      · have hgo : cs.changes kind = { cs with md := if cs.md < 3 then 3 else cs.md } := by simp [CS.changes, k2, k3, k4]
        refine TS.of [] fun Q hQ => ?_
        simp only [go_sem, Nat.reduceEqDiff, Nat.reduceBEq, Int.reduceToNat, Int.reduceLT, Int.reduceLE, Int.reduceEq, Nat.reduceLeDiff, Nat.reduceLT, Nat.reduceMul, Nat.reduceAdd, String.reduceEq, k2, k3, k4]
        refine hQ .normal _ ?_; exact post_end _ _ (.tup []) (by simp only [go_sem, Nat.reduceEqDiff, Nat.reduceBEq, Int.reduceToNat, Int.reduceLT, Int.reduceLE, Int.reduceEq, Nat.reduceLeDiff, Nat.reduceLT, Nat.reduceMul, Nat.reduceAdd, String.reduceEq]) rfl (DropW.ck0 B cs ({ cs with md := if cs.md < 3 then 3 else cs.md }) R rw_) ⟨rfl, by rw [hgo]⟩
theorem encT_all (s : Stmt) : encT s = [ii s.k, ss s.s, slE s.x, ii s.n, slT s.b, slT s.e, ii s.p] := encT_eq s
set_option maxRecDepth 100000 in
set_option maxHeartbeats 4000000 in
theorem numbers_sim (s : Stmt) (cs : CS) (hN : szs s.x < 800000) : SimC 99 [.agg (encT s)] cs (ii (cargs s.x 1 cs).1) (cargs s.x 1 cs).2 := by
  intro B R rw_
  refine Sim.ofS 22 [.tmp 4] Try.func99 rfl rfl rfl (by simp) fun wr => ?_
  simp only [go_sem, Nat.reduceEqDiff, Nat.reduceBEq, Int.reduceToNat, Int.reduceLT, Int.reduceLE, Int.reduceEq, Nat.reduceLeDiff, Nat.reduceLT, Nat.reduceMul, Nat.reduceAdd, String.reduceEq]
  have hll := szs_len s.x
  refine TS.seq (TS.of [3] fun Q hQ => ?_)
  simp only [go_sem, Nat.reduceEqDiff, Nat.reduceBEq, Int.reduceToNat, Int.reduceLT, Int.reduceLE, Int.reduceEq, Nat.reduceLeDiff, Nat.reduceLT, Nat.reduceMul, Nat.reduceAdd, String.reduceEq, encT_eq]
  refine hQ .normal _ ?_; clear hQ Q
  refine TS.seq (TS.of [] fun Q hQ => ?_)
  simp only [go_sem, Nat.reduceEqDiff, Nat.reduceBEq, Int.reduceToNat, Int.reduceLT, Int.reduceLE, Int.reduceEq, Nat.reduceLeDiff, Nat.reduceLT, Nat.reduceMul, Nat.reduceAdd, String.reduceEq]
  refine hQ .normal _ ?_; clear hQ Q
  refine TS.seq (TS.seq (TS.of [] fun Q hQ => ?_))
  simp only [go_sem, Nat.reduceEqDiff, Nat.reduceBEq, Int.reduceToNat, Int.reduceLT, Int.reduceLE, Int.reduceEq, Nat.reduceLeDiff, Nat.reduceLT, Nat.reduceMul, Nat.reduceAdd, String.reduceEq]
  refine hQ .normal _ ?_; clear hQ Q
  refine TS.block (TS.loop (α := Nat × Int × CS) (fun x => [(0, .ptr (B.length + 2) 0), (5, ii x.2.1), (9, slE s.x), (10, ii s.x.length), (11, ii x.1)]) (fun x => ⟨CM B x.2.2 R, rw_⟩) (fun x => x.1 ≤ s.x.length ∧ 0 ≤ x.2.1 ∧ x.2.1 + szs (s.x.drop x.1) ≤ szs s.x ∧ x.2.1 + (cargs (s.x.drop x.1) 1 x.2.2).1 = (cargs s.x 1 cs).1 ∧ (cargs (s.x.drop x.1) 1 x.2.2).2 = (cargs s.x 1 cs).2) (fun x => s.x.length - x.1) (0, 0, cs) (by simp) ⟨by simp [Has, upd_apply, argsT], rfl, by simp⟩ ?_)
  rintro ⟨k, n, c1⟩ st hH hm ⟨hk, hn0, hn1, hc1, hc2⟩
  dsimp only at hH hm hk hn0 hn1 hc1 hc2
  simp only [Has, List.mem_cons, List.not_mem_nil, or_false, forall_eq_or_imp, forall_eq] at hH; obtain ⟨i0, i5, i9, i10, i11⟩ := hH
  by_cases hlt : k < s.x.length
  · obtain ⟨x, hx⟩ : ∃ x, s.x[k]? = some x := ⟨_, List.getElem?_eq_getElem hlt⟩
    have hdr : s.x.drop k = x :: s.x.drop (k + 1) := by rw [List.drop_eq_getElem_cons hlt]; congr 1; exact Option.some.inj ((List.getElem?_eq_getElem hlt).symm.trans hx)
    have hat := encEs_at hx
    have hlt5 : k * 5 < (encEs s.x).length := by rw [encEs_length]; omega
    have hw := wrap_succ hlt (by omega)
    have hsz := szE_at hx
    rw [hdr, cargs_cons] at hc1 hc2
    rw [hdr, szs] at hn1
    have hcw : 0 ≤ (cwant x 1 c1).1 ∧ (cwant x 1 c1).1 ≤ szE x := cexpr_le x c1
    have hsub := (cwant_sim x 1 c1 (by omega)).mem B (R ++ [.cells (encE x)]) rw_
    rw [encE_eq] at hsub
    generalize cwant x 1 c1 = X at hc1 hc2 hsub hcw
    have hw2 : IntKind.i64.wrap (n + X.1) = n + X.1 := wrap_small (by omega) (by omega)
    refine TS.of [] fun Q hQ => ?_
    simp only [go_sem, Nat.reduceEqDiff, Nat.reduceBEq, Int.reduceToNat, Int.reduceLT, Int.reduceLE, Int.reduceEq, Nat.reduceLeDiff, Nat.reduceLT, Nat.reduceMul, Nat.reduceAdd, String.reduceEq, i0, i5, i9, i10, i11, hm, hlt, hat, hlt5]
    refine cal_eq hsub ?_
    simp only [go_sem, Nat.reduceEqDiff, Nat.reduceBEq, Int.reduceToNat, Int.reduceLT, Int.reduceLE, Int.reduceEq, Nat.reduceLeDiff, Nat.reduceLT, Nat.reduceMul, Nat.reduceAdd, String.reduceEq, i0, i5, i9, i10, i11, hw, hw2]
    refine hQ .normal _ ?_; clear hQ Q
    refine ⟨_, _, (k + 1, n + X.1, X.2), DropW.ckX B c1 X.2 R rw_ _, ?_, ⟨hlt, by dsimp only; omega, by dsimp only; omega, by dsimp only at hc1 ⊢; omega, hc2⟩, by dsimp only; omega⟩
    simp [upd_apply, i0, i9, i10, IV.np, np_sh, npEs] <;> omega
  · refine TS.of [] fun Q hQ => ?_
    simp only [go_sem, Nat.reduceEqDiff, Nat.reduceBEq, Int.reduceToNat, Int.reduceLT, Int.reduceLE, Int.reduceEq, Nat.reduceLeDiff, Nat.reduceLT, Nat.reduceMul, Nat.reduceAdd, String.reduceEq, i0, i5, i9, i10, i11, hm, hlt]
    refine hQ (.exit 0) _ ?_; clear hQ Q
    have : s.x.drop k = [] := List.drop_eq_nil_of_le (by omega)
    rw [this] at hc1 hc2
    simp only [cargs] at hc1 hc2
    refine TS.of [] fun Q hQ => ?_
    simp only [go_sem, Nat.reduceEqDiff, Nat.reduceBEq, Int.reduceToNat, Int.reduceLT, Int.reduceLE, Int.reduceEq, Nat.reduceLeDiff, Nat.reduceLT, Nat.reduceMul, Nat.reduceAdd, String.reduceEq, i0, i5, i9, i10, i11]
    refine hQ .ret _ ?_; exact post_ret _ _ (ii n) (by simp only [go_sem, Nat.reduceEqDiff, Nat.reduceBEq, Int.reduceToNat, Int.reduceLT, Int.reduceLE, Int.reduceEq, Nat.reduceLeDiff, Nat.reduceLT, Nat.reduceMul, Nat.reduceAdd, String.reduceEq]) rfl (DropW.ck0 B cs (c1) R rw_) ⟨by rw [show (cargs s.x 1 cs).1 = n by omega], by rw [hc2]⟩
def TC (N : Nat) : Prop := ∀ (s : Stmt) (cs : CS), szT s ≤ N → cs.ok → fineT s → SimC 82 [.agg (encT s)] cs (ii (cstmt s cs).1) (cstmt s cs).2
def BC (N : Nat) : Prop := ∀ (l : List Stmt) (also : List Bytes) (cs : CS), szt l ≤ N → cs.ok → fineTs l → also.length ≤ 1 → SimC 59 [slT l, .sl .full also.length (also.map (IV.v <| .string ·))] cs (ii (cloop l also 0 cs).1) (cloop l also 0 cs).2
def rowJ (rw_ : List Nat) (j n : Nat) : List Nat := if j = 0 then rw_ else rw_ ++ [n]
theorem rowJ_app (rw_ : List Nat) (j n : Nat) : app (rowJ rw_ j n) 9 n 1 (accK rw_.length 9 j) = some (accK rw_.length 9 (j + 1), rowJ rw_ (j + 1) (n + 1)) := by
  unfold app rowJ accK
  rw [if_neg (by decide)]
  by_cases h : j = 0
  · subst h; simp
  · simp [h]
theorem rowJ_len (rw_ : List Nat) (j n n' : Nat) : (rowJ rw_ j n).length ≤ (rowJ rw_ (j + 1) n').length := by
  unfold rowJ; split <;> simp
theorem rowJ_take (rw_ : List Nat) (j n : Nat) : (rowJ rw_ j n).take rw_.length = rw_ := by unfold rowJ; split <;> simp
theorem rowJ_np (rw_ : List Nat) (j n : Nat) : (accK rw_.length 9 j).np (rowJ rw_ j n).length = true := by
  unfold rowJ accK
  by_cases h : j = 0
  · simp [h, SK.np]
  · simp [h, SK.np]
set_option maxRecDepth 100000 in
set_option maxHeartbeats 4000000 in
theorem block_cstep {N : Nat} (hNb : N < 800000) (ih : TC N) : BC N := by
  intro l also cs hN hok hfine hal B R rw_
  refine Sim.ofS 50 [.tmp 6] Try.func59 rfl rfl rfl (by simp) fun wr => ?_
  simp only [go_sem, Nat.reduceEqDiff, Nat.reduceBEq, Int.reduceToNat, Int.reduceLT, Int.reduceLE, Int.reduceEq, Nat.reduceLeDiff, Nat.reduceLT, Nat.reduceMul, Nat.reduceAdd, String.reduceEq]
  have hll := szt_len l
  generalize htgt : cloop l also 0 cs = tgt
  refine TS.seq (TS.of [] fun Q hQ => ?_)
  simp only [go_sem, Nat.reduceEqDiff, Nat.reduceBEq, Int.reduceToNat, Int.reduceLT, Int.reduceLE, Int.reduceEq, Nat.reduceLeDiff, Nat.reduceLT, Nat.reduceMul, Nat.reduceAdd, String.reduceEq]
  refine hQ .normal _ ?_; clear hQ Q
  refine TS.seq (TS.of [] fun Q hQ => ?_)
  simp only [go_sem, Nat.reduceEqDiff, Nat.reduceBEq, Int.reduceToNat, Int.reduceLT, Int.reduceLE, Int.reduceEq, Nat.reduceLeDiff, Nat.reduceLT, Nat.reduceMul, Nat.reduceAdd, String.reduceEq]
  refine hQ .normal _ ?_; clear hQ Q
  refine TS.seq (TS.seq (TS.of [] fun Q hQ => ?_))
  simp only [go_sem, Nat.reduceEqDiff, Nat.reduceBEq, Int.reduceToNat, Int.reduceLT, Int.reduceLE, Int.reduceEq, Nat.reduceLeDiff, Nat.reduceLT, Nat.reduceMul, Nat.reduceAdd, String.reduceEq]
  refine hQ .normal _ ?_; clear hQ Q
  refine TS.block (TS.loop (α := Nat × Nat × List Bytes × Int × CS) (fun x => [(0, .ptr (B.length + 2) 0), (2, .sl (accK rw_.length 9 x.2.1) x.2.2.1.length (x.2.2.1.map (IV.v <| .string ·))), (7, ii x.2.2.2.1), (12, slT l), (13, ii l.length), (14, ii x.1)]) (fun x => ⟨CM B x.2.2.2.2 R, rowJ rw_ x.2.1 x.2.2.1.length⟩)
    (fun x => x.1 ≤ l.length ∧ x.2.2.2.2.ok ∧ fineTs (l.drop x.1) ∧ 0 ≤ x.2.2.2.1 ∧ x.2.2.2.1 + 140000 * (szt (l.drop x.1) : Int) ≤ 140000 * (szt l : Int) ∧ x.2.2.1.length ≤ x.1 + 1 ∧ cloop (l.drop x.1) x.2.2.1 x.2.2.2.1 x.2.2.2.2 = tgt) (fun x => l.length - x.1) (0, 0, also, 0, cs) (by simp) ⟨by simp [Has, upd_apply, argsT, accK], rfl, by simp [hok, hfine, hal, htgt]⟩ ?_)
  rintro ⟨k, j, al, n, c1⟩ st hH hm ⟨hk, hok1, hfi, hn0, hn1, hal1, hc⟩
  dsimp only at hH hm hk hok1 hfi hn0 hn1 hal1 hc
  simp only [Has, List.mem_cons, List.not_mem_nil, or_false, forall_eq_or_imp, forall_eq] at hH; obtain ⟨i0, i2, i7, i12, i13, i14⟩ := hH
  by_cases hlt : k < l.length
  · obtain ⟨x, hx⟩ : ∃ x, l[k]? = some x := ⟨_, List.getElem?_eq_getElem hlt⟩
    have hdr : l.drop k = x :: l.drop (k + 1) := by rw [List.drop_eq_getElem_cons hlt]; congr 1; exact Option.some.inj ((List.getElem?_eq_getElem hlt).symm.trans hx)
    have hat := encTs_at hx
    have hlt7 : k * 7 < (encTs l).length := by rw [encTs_length]; omega
    have hw := wrap_succ hlt (by omega)
    have hsz := szT_at hx
    rw [hdr, fineTs] at hfi
    rw [hdr, szt] at hn1
    rw [hdr, cloop] at hc
    have hle := cstmt_le x c1 hfi.1
    have hok2 := cstmt_ok x c1 hok1 hfi.1
    have hsub := (ih x c1 (by omega) hok1 hfi.1).mem B (R ++ [.cells (encT x)]) (rowJ rw_ j al.length)
    rw [encT_eq] at hsub
    generalize cstmt x c1 = X at hc hsub hle hok2
    have hw2 : IntKind.i64.wrap (n + X.1) = n + X.1 := wrap_small (by omega) (by omega)
    have happ := rowJ_app rw_ j al.length
    have hbound : (al.length + 1) * 16 ≤ 140737488355328 := by omega
    have hlen : (al.map (fun s => (IV.v (.string s)))).length = al.length := by simp
    by_cases k1 : x.k = 1
    · rw [if_pos k1] at hc
      cases hf : X.2.ft with
      | none =>
        rw [hf] at hc
        rw [if_neg (by simp)] at hc
        refine TS.of [] fun Q hQ => ?_
        simp only [go_sem, Nat.reduceEqDiff, Nat.reduceBEq, Int.reduceToNat, Int.reduceLT, Int.reduceLE, Int.reduceEq, Nat.reduceLeDiff, Nat.reduceLT, Nat.reduceMul, Nat.reduceAdd, String.reduceEq, i0, i2, i7, i12, i13, i14, hm, hlt, hat, hlt7]
        refine cal_eq hsub ?_
        simp only [go_sem, Nat.reduceEqDiff, Nat.reduceBEq, Int.reduceToNat, Int.reduceLT, Int.reduceLE, Int.reduceEq, Nat.reduceLeDiff, Nat.reduceLT, Nat.reduceMul, Nat.reduceAdd, String.reduceEq, i0, i2, i7, i12, i13, i14, hw, hw2, k1, happ, hbound, hlen, hf, ftI_none]
        refine hQ .normal _ ?_; clear hQ Q
        have hl1 : (al ++ [x.s] : List Bytes).length = al.length + 1 := by simp
        refine ⟨B.length + (R.length + 3), (rowJ rw_ (j + 1) (al.length + 1)).length, (k + 1, j + 1, al ++ [x.s], n + X.1, X.2), ?_, ?_, ⟨by dsimp only; omega, hok2, hfi.2, by dsimp only; omega, by dsimp only; omega, by dsimp only; rw [hl1]; omega, hc⟩, by dsimp only; omega⟩
        · dsimp only; rw [hl1]
          exact DropW.ckR B c1 X.2 R _ _ _ _ (rowJ_len _ _ _ _) (by simp)
        · dsimp only; rw [hl1]
          simp [upd_apply, i0, i12, i13, IV.np, np_sh, npTs, npS, rowJ_np, npL_app, npL] <;> omega
      | some p =>
        rw [hf, if_pos (by simp)] at hc
        refine TS.of [] fun Q hQ => ?_
        simp only [go_sem, Nat.reduceEqDiff, Nat.reduceBEq, Int.reduceToNat, Int.reduceLT, Int.reduceLE, Int.reduceEq, Nat.reduceLeDiff, Nat.reduceLT, Nat.reduceMul, Nat.reduceAdd, String.reduceEq, i0, i2, i7, i12, i13, i14, hm, hlt, hat, hlt7]
        refine cal_eq hsub ?_
        simp only [go_sem, Nat.reduceEqDiff, Nat.reduceBEq, Int.reduceToNat, Int.reduceLT, Int.reduceLE, Int.reduceEq, Nat.reduceLeDiff, Nat.reduceLT, Nat.reduceMul, Nat.reduceAdd, String.reduceEq, i0, i2, i7, i12, i13, i14, hw, hw2, k1, happ, hbound, hlen, hf, ftI_some]
        refine hQ .ret _ ?_; clear hQ Q
        exact post_ret _ _ (ii 0) (by simp only [upd_apply, res, resL, res1, IV.sh]; rfl) rfl (DropW.ckR B cs X.2 R [_] rw_ rw_ (rowJ rw_ (j + 1) (al.length + 1)) (Nat.le_refl _) (rowJ_take _ _ _)) ⟨by rw [← hc], by rw [← hc]⟩
    · rw [if_neg k1] at hc
      cases hf : X.2.ft with
      | none =>
        rw [hf] at hc
        rw [if_neg (by simp)] at hc
        refine TS.of [] fun Q hQ => ?_
        simp only [go_sem, Nat.reduceEqDiff, Nat.reduceBEq, Int.reduceToNat, Int.reduceLT, Int.reduceLE, Int.reduceEq, Nat.reduceLeDiff, Nat.reduceLT, Nat.reduceMul, Nat.reduceAdd, String.reduceEq, i0, i2, i7, i12, i13, i14, hm, hlt, hat, hlt7]
        refine cal_eq hsub ?_
        simp only [go_sem, Nat.reduceEqDiff, Nat.reduceBEq, Int.reduceToNat, Int.reduceLT, Int.reduceLE, Int.reduceEq, Nat.reduceLeDiff, Nat.reduceLT, Nat.reduceMul, Nat.reduceAdd, String.reduceEq, i0, i2, i7, i12, i13, i14, hw, hw2, k1, happ, hbound, hlen, hf, ftI_none]
        refine hQ .normal _ ?_; clear hQ Q
        refine ⟨B.length + (R.length + 3), (rowJ rw_ j al.length).length, (k + 1, j, al, n + X.1, X.2), DropW.ckR B c1 X.2 R [_] _ _ _ (Nat.le_refl _) (by simp), ?_, ⟨by dsimp only; omega, hok2, hfi.2, by dsimp only; omega, by dsimp only; omega, by dsimp only; omega, hc⟩, by dsimp only; omega⟩
        simp [upd_apply, i0, i2, i12, i13, IV.np, np_sh, npTs, npS, rowJ_np] <;> omega
      | some p =>
        rw [hf, if_pos (by simp)] at hc
        refine TS.of [] fun Q hQ => ?_
        simp only [go_sem, Nat.reduceEqDiff, Nat.reduceBEq, Int.reduceToNat, Int.reduceLT, Int.reduceLE, Int.reduceEq, Nat.reduceLeDiff, Nat.reduceLT, Nat.reduceMul, Nat.reduceAdd, String.reduceEq, i0, i2, i7, i12, i13, i14, hm, hlt, hat, hlt7]
        refine cal_eq hsub ?_
        simp only [go_sem, Nat.reduceEqDiff, Nat.reduceBEq, Int.reduceToNat, Int.reduceLT, Int.reduceLE, Int.reduceEq, Nat.reduceLeDiff, Nat.reduceLT, Nat.reduceMul, Nat.reduceAdd, String.reduceEq, i0, i2, i7, i12, i13, i14, hw, hw2, k1, happ, hbound, hlen, hf, ftI_some]
        refine hQ .ret _ ?_; clear hQ Q
        exact post_ret _ _ (ii 0) (by simp only [upd_apply, res, resL, res1, IV.sh]; rfl) rfl (DropW.ckR B cs X.2 R [_] rw_ rw_ (rowJ rw_ j al.length) (Nat.le_refl _) (rowJ_take _ _ _)) ⟨by rw [← hc], by rw [← hc]⟩
  · have : l.drop k = [] := List.drop_eq_nil_of_le (by omega)
    rw [this, cloop] at hc
    refine TS.of [] fun Q hQ => ?_
    simp only [go_sem, Nat.reduceEqDiff, Nat.reduceBEq, Int.reduceToNat, Int.reduceLT, Int.reduceLE, Int.reduceEq, Nat.reduceLeDiff, Nat.reduceLT, Nat.reduceMul, Nat.reduceAdd, String.reduceEq, i0, i2, i7, i12, i13, i14, hm, hlt]
    refine hQ (.exit 0) _ ?_; clear hQ Q
    refine TS.seq (TS.seq (TS.of [] fun Q hQ => ?_))
    simp only [go_sem, Nat.reduceEqDiff, Nat.reduceBEq, Int.reduceToNat, Int.reduceLT, Int.reduceLE, Int.reduceEq, Nat.reduceLeDiff, Nat.reduceLT, Nat.reduceMul, Nat.reduceAdd, String.reduceEq, i0, i2, i7, i12, i13, i14]
    refine hQ .normal _ ?_; clear hQ Q
    refine TS.block (TS.loop (α := Nat × CS) (fun x => [(0, .ptr (B.length + 2) 0), (7, ii n), (37, .sl (accK rw_.length 9 j) al.length (al.map (IV.v <| .string ·))), (38, ii al.length), (39, ii x.1)]) (fun x => ⟨CM B x.2 R, rowJ rw_ j al.length⟩) (fun x => x.1 ≤ al.length ∧ (n, x.2.dels (al.drop x.1)) = tgt) (fun x => al.length - x.1) (0, c1) (by simp) ⟨by simp [Has, upd_apply, i0, i7], rfl, by simp [hc]⟩ ?_)
    rintro ⟨q, c2⟩ s2 hH hm2 ⟨hq, hc2⟩
    dsimp only at hH hm2 hq hc2
    simp only [Has, List.mem_cons, List.not_mem_nil, or_false, forall_eq_or_imp, forall_eq] at hH; obtain ⟨j0, j7, j37, j38, j39⟩ := hH
    by_cases hql : q < al.length
    · obtain ⟨x, hx⟩ : ∃ x, al[q]? = some x := ⟨_, List.getElem?_eq_getElem hql⟩
      have hdr : al.drop q = x :: al.drop (q + 1) := by rw [List.drop_eq_getElem_cons hql]; congr 1; exact Option.some.inj ((List.getElem?_eq_getElem hql).symm.trans hx)
      have hat : (al.map (fun s => (IV.v (.string s)))).drop q = ss x :: (al.drop (q + 1)).map (fun s => (IV.v (.string s))) := by rw [← List.map_drop, hdr]; rfl
      have hlt1 : q < (al.map (fun s => (IV.v (.string s)))).length := by simpa using hql
      have hw := wrap_succ hql (by omega)
      rw [hdr, CS.dels] at hc2
      refine TS.of [] fun Q hQ => ?_
      simp only [go_sem, Nat.reduceEqDiff, Nat.reduceBEq, Int.reduceToNat, Int.reduceLT, Int.reduceLE, Int.reduceEq, Nat.reduceLeDiff, Nat.reduceLT, Nat.reduceMul, Nat.reduceAdd, String.reduceEq, j0, j7, j37, j38, j39, hm2, hql, hat, hlt1, hw, Mem.map_, mlook_enc, mdel_enc]
      refine hQ .normal _ ?_; clear hQ Q
      refine ⟨B.length + (R.length + 3), (rowJ rw_ j al.length).length, (q + 1, { c2 with kn := delM x c2.kn }), ?_, ?_, ⟨by dsimp only; omega, hc2⟩, by dsimp only; omega⟩
      · have := DropW.ckR B c2 { c2 with kn := delM x c2.kn } R [] (rowJ rw_ j al.length) (rowJ rw_ j al.length) (rowJ rw_ j al.length) (Nat.le_refl _) (by simp)
        rw [List.append_nil] at this
        exact this
      · simp [upd_apply, j0, j7, j37, j38, IV.np, npS, rowJ_np] <;> omega
    · have : al.drop q = [] := List.drop_eq_nil_of_le (by omega)
      rw [this, CS.dels] at hc2
      refine TS.of [] fun Q hQ => ?_
      simp only [go_sem, Nat.reduceEqDiff, Nat.reduceBEq, Int.reduceToNat, Int.reduceLT, Int.reduceLE, Int.reduceEq, Nat.reduceLeDiff, Nat.reduceLT, Nat.reduceMul, Nat.reduceAdd, String.reduceEq, j0, j7, j37, j38, j39, hm2, hql]
      refine hQ (.exit 2) _ ?_; clear hQ Q
      refine TS.of [] fun Q hQ => ?_
      simp only [go_sem, Nat.reduceEqDiff, Nat.reduceBEq, Int.reduceToNat, Int.reduceLT, Int.reduceLE, Int.reduceEq, Nat.reduceLeDiff, Nat.reduceLT, Nat.reduceMul, Nat.reduceAdd, String.reduceEq, j0, j7, j37, j38, j39, hm2]
      refine hQ .ret _ ?_; clear hQ Q
      have hdw := DropW.ckR B cs c2 R [] rw_ rw_ (rowJ rw_ j al.length) (Nat.le_refl _) (rowJ_take _ _ _)
      rw [List.append_nil] at hdw
      exact post_ret _ _ (ii n) (by simp only [upd_apply, res, resL, res1, IV.sh]; rfl) rfl hdw ⟨by rw [← hc2], by rw [← hc2]⟩
end Go.Proofs.Ytphjldhdnmoolaa.A
/- The walks of some functions over the abstract machine. -/
namespace Go.Proofs.Ytphjldhdnmoolaa.A
open Go
set_option maxRecDepth 100000 in
set_option maxHeartbeats 4000000 in
theorem stmt_cstep {N : Nat} (hNb : N < 800000) (ih : ∀ M, M < N → BC M) : TC N := by
  intro s cs hN hok hfine B R rw_
  have hsz := szT_eq s
  have hll := szs_len s.x
  have hgo : cstmt s cs = cstmt s cs := rfl
  conv at hgo => rhs; rw [show s = .mk s.k s.s s.x s.n s.b s.e s.p by cases s; rfl]; unfold cstmt
  have hfi : 0 ≤ s.n ∧ (s.k = 1 → s.x ≠ []) ∧ fineTs s.b ∧ fineTs s.e := by
    have h := hfine
    rw [show s = .mk s.k s.s s.x s.n s.b s.e s.p by cases s; rfl] at h
    unfold fineT at h
    exact h
  obtain ⟨hf1, hf2, hf3, hf4⟩ := hfi
  refine Sim.ofS 102 [.tmp 4] Try.func82 rfl rfl rfl (by simp) fun wr => ?_
  simp only [go_sem, Nat.reduceEqDiff, Nat.reduceBEq, Int.reduceToNat, Int.reduceLT, Int.reduceLE, Int.reduceEq, Nat.reduceLeDiff, Nat.reduceLT, Nat.reduceMul, Nat.reduceAdd, String.reduceEq]
  refine TS.seq (TS.of [3] fun Q hQ => ?_)
  simp only [go_sem, Nat.reduceEqDiff, Nat.reduceBEq, Int.reduceToNat, Int.reduceLT, Int.reduceLE, Int.reduceEq, Nat.reduceLeDiff, Nat.reduceLT, Nat.reduceMul, Nat.reduceAdd, String.reduceEq, encT_eq]
  refine hQ .normal _ ?_; clear hQ Q
  refine TS.seq (TS.seq (TS.of [] fun Q hQ => ?_))
  simp only [go_sem, Nat.reduceEqDiff, Nat.reduceBEq, Int.reduceToNat, Int.reduceLT, Int.reduceLE, Int.reduceEq, Nat.reduceLeDiff, Nat.reduceLT, Nat.reduceMul, Nat.reduceAdd, String.reduceEq]
  refine hQ .normal _ ?_; clear hQ Q
  refine TS.block (TS.seq (TS.of [] fun Q hQ => ?_))
  by_cases k1 : s.k = 1
  · rw [if_pos k1] at hgo
    have hpos := clet_pos s.x 0 0 cs hok (.inl (hf2 k1))
    have hcle := clet_le s.x 0 0 cs (by omega)
    have hcn := clet_names s.x 0 0 cs
    generalize hcl : clet s.x 0 0 cs = C at hgo hpos hcle hcn
    simp only [go_sem, Nat.reduceEqDiff, Nat.reduceBEq, Int.reduceToNat, Int.reduceLT, Int.reduceLE, Int.reduceEq, Nat.reduceLeDiff, Nat.reduceLT, Nat.reduceMul, Nat.reduceAdd, String.reduceEq, k1]
    refine hQ .normal _ ?_; clear hQ Q
    refine TS.cond (t := true) (by simp only [go_sem, Nat.reduceEqDiff, Nat.reduceBEq, Int.reduceToNat, Int.reduceLT, Int.reduceLE, Int.reduceEq, Nat.reduceLeDiff, Nat.reduceLT, Nat.reduceMul, Nat.reduceAdd, String.reduceEq, k1]) ?_
    refine TS.seq (TS.of [] fun Q hQ => ?_)
    simp only [go_sem, Nat.reduceEqDiff, Nat.reduceBEq, Int.reduceToNat, Int.reduceLT, Int.reduceLE, Int.reduceEq, Nat.reduceLeDiff, Nat.reduceLT, Nat.reduceMul, Nat.reduceAdd, String.reduceEq, k1]
    refine hQ .normal _ ?_; clear hQ Q
    refine TS.seq (TS.seq (TS.of [] fun Q hQ => ?_))
    simp only [go_sem, Nat.reduceEqDiff, Nat.reduceBEq, Int.reduceToNat, Int.reduceLT, Int.reduceLE, Int.reduceEq, Nat.reduceLeDiff, Nat.reduceLT, Nat.reduceMul, Nat.reduceAdd, String.reduceEq, k1]
    refine hQ .normal _ ?_; clear hQ Q
    refine TS.block (TS.loop (α := Nat × Int × Int × CS) (fun x => [(0, .ptr (B.length + 2) 0), (3, .ref [ii 1, ss s.s, slE s.x, ii s.n, slT s.b, slT s.e, ii s.p]), (5, ii x.2.1), (6, ii x.2.2.1), (17, slE s.x), (18, ii s.x.length), (19, ii x.1)]) (fun x => ⟨CM B x.2.2.2 R, rw_⟩) (fun x => x.1 ≤ s.x.length ∧ clet (s.x.drop x.1) x.2.1 x.2.2.1 x.2.2.2 = C) (fun x => s.x.length - x.1) (0, 0, 0, cs) (by simp) ⟨by simp [Has, upd_apply, argsT, k1], rfl, by simp [hcl]⟩ ?_)
    rintro ⟨k, a, n, c1⟩ st hH hm ⟨hk, hc⟩
    dsimp only at hH hm hk hc
    simp only [Has, List.mem_cons, List.not_mem_nil, or_false, forall_eq_or_imp, forall_eq] at hH; obtain ⟨i0, i3, i5, i6, i17, i18, i19⟩ := hH
    by_cases hlt : k < s.x.length
    · obtain ⟨x, hx⟩ : ∃ x, s.x[k]? = some x := ⟨_, List.getElem?_eq_getElem hlt⟩
      have hdr : s.x.drop k = x :: s.x.drop (k + 1) := by rw [List.drop_eq_getElem_cons hlt]; congr 1; exact Option.some.inj ((List.getElem?_eq_getElem hlt).symm.trans hx)
      have hat := encEs_at hx
      have hlt5 : k * 5 < (encEs s.x).length := by rw [encEs_length]; omega
      have hw := wrap_succ hlt (by omega)
      have hszx := szE_at hx
      rw [hdr, clet] at hc
      have hsub := (cexpr_sim x c1 (by omega)).mem B (R ++ [.cells (encE x)]) rw_
      rw [encE_eq] at hsub
      generalize cexpr x c1 = X at hc hsub
      refine TS.of [] fun Q hQ => ?_
      simp only [go_sem, Nat.reduceEqDiff, Nat.reduceBEq, Int.reduceToNat, Int.reduceLT, Int.reduceLE, Int.reduceEq, Nat.reduceLeDiff, Nat.reduceLT, Nat.reduceMul, Nat.reduceAdd, String.reduceEq, i0, i3, i5, i6, i17, i18, i19, hm, hlt, hat, hlt5]
      refine cal_eq hsub ?_
      simp only [go_sem, Nat.reduceEqDiff, Nat.reduceBEq, Int.reduceToNat, Int.reduceLT, Int.reduceLE, Int.reduceEq, Nat.reduceLeDiff, Nat.reduceLT, Nat.reduceMul, Nat.reduceAdd, String.reduceEq, i0, i3, i5, i6, i17, i18, i19, hw]
      refine hQ .normal _ ?_; clear hQ Q
      refine ⟨_, _, (k + 1, X.1, X.2.1, X.2.2), DropW.ckX B c1 X.2.2 R rw_ _, ?_, ⟨hlt, hc⟩, by dsimp only; omega⟩
      simp [upd_apply, i0, i3, i17, i18, IV.np, np_sh, npEs, npTs, npL] <;> omega
    · refine TS.of [] fun Q hQ => ?_
      simp only [go_sem, Nat.reduceEqDiff, Nat.reduceBEq, Int.reduceToNat, Int.reduceLT, Int.reduceLE, Int.reduceEq, Nat.reduceLeDiff, Nat.reduceLT, Nat.reduceMul, Nat.reduceAdd, String.reduceEq, i0, i3, i5, i6, i17, i18, i19, hm, hlt]
      refine hQ (.exit 1) _ ?_; clear hQ Q
      have : s.x.drop k = [] := List.drop_eq_nil_of_le (by omega)
      rw [this, clet] at hc
      subst hc
      dsimp only at hcle hcn
      have hw1 : IntKind.i64.wrap (1 + n) = 1 + n := wrap_small (by omega) (by omega)
      have hok1 : c1.ok := hok.names hcn
      refine TS.of [] fun Q hQ => ?_
      simp only [go_sem, Nat.reduceEqDiff, Nat.reduceBEq, Int.reduceToNat, Int.reduceLT, Int.reduceLE, Int.reduceEq, Nat.reduceLeDiff, Nat.reduceLT, Nat.reduceMul, Nat.reduceAdd, String.reduceEq, i0, i3, i5, i6, i17, i18, i19]
      refine cal_eq (declare_sim c1 hok1 (by have := hok1.ul; omega) s.s a s.p B R rw_) ?_
      simp only [go_sem, Nat.reduceEqDiff, Nat.reduceBEq, Int.reduceToNat, Int.reduceLT, Int.reduceLE, Int.reduceEq, Nat.reduceLeDiff, Nat.reduceLT, Nat.reduceMul, Nat.reduceAdd, String.reduceEq, i0, i3, i5, i6, i17, i18, i19, hw1]
      refine hQ .ret _ ?_; exact post_ret _ _ (ii (1 + n)) (by simp only [go_sem, Nat.reduceEqDiff, Nat.reduceBEq, Int.reduceToNat, Int.reduceLT, Int.reduceLE, Int.reduceEq, Nat.reduceLeDiff, Nat.reduceLT, Nat.reduceMul, Nat.reduceAdd, String.reduceEq]) rfl (DropW.ck0 B cs (c1.declare s.s a s.p) R rw_) ⟨by rw [hgo], by rw [hgo]⟩
  rw [if_neg k1] at hgo
  simp only [go_sem, Nat.reduceEqDiff, Nat.reduceBEq, Int.reduceToNat, Int.reduceLT, Int.reduceLE, Int.reduceEq, Nat.reduceLeDiff, Nat.reduceLT, Nat.reduceMul, Nat.reduceAdd, String.reduceEq, k1]
  refine hQ .normal _ ?_; clear hQ Q
  refine TS.cond (t := false) (by simp only [go_sem, Nat.reduceEqDiff, Nat.reduceBEq, Int.reduceToNat, Int.reduceLT, Int.reduceLE, Int.reduceEq, Nat.reduceLeDiff, Nat.reduceLT, Nat.reduceMul, Nat.reduceAdd, String.reduceEq, k1]) ?_
  refine TS.seq (TS.of [] fun Q hQ => ?_)
  by_cases k6 : s.k = 6
  · rw [if_pos k6] at hgo
    simp only [go_sem, Nat.reduceEqDiff, Nat.reduceBEq, Int.reduceToNat, Int.reduceLT, Int.reduceLE, Int.reduceEq, Nat.reduceLeDiff, Nat.reduceLT, Nat.reduceMul, Nat.reduceAdd, String.reduceEq, k6]
    refine hQ .normal _ ?_; clear hQ Q
    refine TS.cond (t := true) (by simp only [go_sem, Nat.reduceEqDiff, Nat.reduceBEq, Int.reduceToNat, Int.reduceLT, Int.reduceLE, Int.reduceEq, Nat.reduceLeDiff, Nat.reduceLT, Nat.reduceMul, Nat.reduceAdd, String.reduceEq, k6]) ?_
    refine TS.seq (TS.of [] fun Q hQ => ?_)
    simp only [go_sem, Nat.reduceEqDiff, Nat.reduceBEq, Int.reduceToNat, Int.reduceLT, Int.reduceLE, Int.reduceEq, Nat.reduceLeDiff, Nat.reduceLT, Nat.reduceMul, Nat.reduceAdd, String.reduceEq, k6]
    refine hQ .normal _ ?_; clear hQ Q
    generalize hca : cargs s.x 2 cs = C at hgo
    have hcle := cargs_le s.x 2 cs
    have hcn := cargs_names s.x 2 cs
    rw [hca] at hcle hcn
    refine TS.seq (TS.seq (TS.of [] fun Q hQ => ?_))
    simp only [go_sem, Nat.reduceEqDiff, Nat.reduceBEq, Int.reduceToNat, Int.reduceLT, Int.reduceLE, Int.reduceEq, Nat.reduceLeDiff, Nat.reduceLT, Nat.reduceMul, Nat.reduceAdd, String.reduceEq, k6]
    refine hQ .normal _ ?_; clear hQ Q
    refine TS.block (TS.loop (α := Nat × Int × CS) (fun x => [(0, .ptr (B.length + 2) 0), (3, .ref [ii 6, ss s.s, slE s.x, ii s.n, slT s.b, slT s.e, ii s.p]), (9, ii x.2.1), (42, slE s.x), (43, ii s.x.length), (44, ii x.1)]) (fun x => ⟨CM B x.2.2 R, rw_⟩) (fun x => x.1 ≤ s.x.length ∧ 0 ≤ x.2.1 ∧ x.2.1 + szs (s.x.drop x.1) ≤ 1 + szs s.x ∧ x.2.1 + (cargs (s.x.drop x.1) 2 x.2.2).1 = 1 + C.1 ∧ (cargs (s.x.drop x.1) 2 x.2.2).2 = C.2) (fun x => s.x.length - x.1) (0, 1, cs) (by simp) ⟨by simp [Has, upd_apply, argsT, k6], rfl, by simp [hca]⟩ ?_)
    rintro ⟨k, n, c1⟩ st hH hm ⟨hk, hn0, hn1, hc1, hc2⟩
    dsimp only at hH hm hk hn0 hn1 hc1 hc2
    simp only [Has, List.mem_cons, List.not_mem_nil, or_false, forall_eq_or_imp, forall_eq] at hH; obtain ⟨i0, i3, i9, i42, i43, i44⟩ := hH
    by_cases hlt : k < s.x.length
    · obtain ⟨x, hx⟩ : ∃ x, s.x[k]? = some x := ⟨_, List.getElem?_eq_getElem hlt⟩
      have hdr : s.x.drop k = x :: s.x.drop (k + 1) := by rw [List.drop_eq_getElem_cons hlt]; congr 1; exact Option.some.inj ((List.getElem?_eq_getElem hlt).symm.trans hx)
      have hat := encEs_at hx
      have hlt5 : k * 5 < (encEs s.x).length := by rw [encEs_length]; omega
      have hw := wrap_succ hlt (by omega)
      have hszx := szE_at hx
      rw [hdr, cargs_cons] at hc1 hc2
      rw [hdr, szs] at hn1
      have hcw : 0 ≤ (cwant x 2 c1).1 ∧ (cwant x 2 c1).1 ≤ szE x := cexpr_le x c1
      have hsub := (cwant_sim x 2 c1 (by omega)).mem B (R ++ [.cells (encE x)]) rw_
      rw [encE_eq] at hsub
      generalize cwant x 2 c1 = X at hc1 hc2 hsub hcw
      have hw2 : IntKind.i64.wrap (n + X.1) = n + X.1 := wrap_small (by omega) (by omega)
      refine TS.of [] fun Q hQ => ?_
      simp only [go_sem, Nat.reduceEqDiff, Nat.reduceBEq, Int.reduceToNat, Int.reduceLT, Int.reduceLE, Int.reduceEq, Nat.reduceLeDiff, Nat.reduceLT, Nat.reduceMul, Nat.reduceAdd, String.reduceEq, i0, i3, i9, i42, i43, i44, hm, hlt, hat, hlt5]
      refine cal_eq hsub ?_
      simp only [go_sem, Nat.reduceEqDiff, Nat.reduceBEq, Int.reduceToNat, Int.reduceLT, Int.reduceLE, Int.reduceEq, Nat.reduceLeDiff, Nat.reduceLT, Nat.reduceMul, Nat.reduceAdd, String.reduceEq, i0, i3, i9, i42, i43, i44, hw, hw2]
      refine hQ .normal _ ?_; clear hQ Q
      refine ⟨_, _, (k + 1, n + X.1, X.2), DropW.ckX B c1 X.2 R rw_ _, ?_, ⟨hlt, by dsimp only; omega, by dsimp only; omega, by dsimp only at hc1 ⊢; omega, hc2⟩, by dsimp only; omega⟩
      simp [upd_apply, i0, i3, i42, i43, IV.np, np_sh, npEs, npTs, npL] <;> omega
    · refine TS.of [] fun Q hQ => ?_
      simp only [go_sem, Nat.reduceEqDiff, Nat.reduceBEq, Int.reduceToNat, Int.reduceLT, Int.reduceLE, Int.reduceEq, Nat.reduceLeDiff, Nat.reduceLT, Nat.reduceMul, Nat.reduceAdd, String.reduceEq, i0, i3, i9, i42, i43, i44, hm, hlt]
      refine hQ (.exit 3) _ ?_; clear hQ Q
      have : s.x.drop k = [] := List.drop_eq_nil_of_le (by omega)
      rw [this] at hc1 hc2
      simp only [cargs] at hc1 hc2
      have hne : n = 1 + C.1 := by omega
      rw [← hc2, ← hne] at hgo
      have hok1 : c1.ok := by rw [hc2]; exact hok.names hcn
      have hs1 := (ih (szt s.b) (by omega) s.b [] c1 (Nat.le_refl _) hok1 hf3 (by simp)).mem B R rw_
      have hl1 := cloop_le s.b [] 0 c1 hf3 (by omega)
      have hok2 := cloop_ok s.b [] 0 c1 hok1 hf3
      generalize cloop s.b [] 0 c1 = X at hgo hs1 hl1 hok2
      have hs2 := (ih (szt s.e) (by omega) s.e [] X.2 (Nat.le_refl _) hok2 hf4 (by simp)).mem B R rw_
      have hl2 := cloop_le s.e [] 0 X.2 hf4 (by omega)
      generalize cloop s.e [] 0 X.2 = Y at hgo hs2 hl2
      have hw3 : IntKind.i64.wrap (n + (if X.1 < Y.1 then Y.1 else X.1)) = n + (if X.1 < Y.1 then Y.1 else X.1) := wrap_small (by split <;> omega) (by split <;> omega)
      refine TS.of [] fun Q hQ => ?_
      simp only [go_sem, Nat.reduceEqDiff, Nat.reduceBEq, Int.reduceToNat, Int.reduceLT, Int.reduceLE, Int.reduceEq, Nat.reduceLeDiff, Nat.reduceLT, Nat.reduceMul, Nat.reduceAdd, String.reduceEq, i0, i3, i9, i42, i43, i44]
      refine drn_of ⟨[57, 61], [], []⟩ [0, 0, 0, 4, 14, 0, 0, 64, 254, 510, 1023, 2047] (by kernel_rfl) ?_
      simp only [go_sem, Nat.reduceEqDiff, Nat.reduceBEq, Int.reduceToNat, Int.reduceLT, Int.reduceLE, Int.reduceEq, Nat.reduceLeDiff, Nat.reduceLT, Nat.reduceMul, Nat.reduceAdd, String.reduceEq, i0, i3, i9, i42, i43, i44]
      refine cald_eq hs1 ?_
      simp only [go_sem, Nat.reduceEqDiff, Nat.reduceBEq, Int.reduceToNat, Int.reduceLT, Int.reduceLE, Int.reduceEq, Nat.reduceLeDiff, Nat.reduceLT, Nat.reduceMul, Nat.reduceAdd, String.reduceEq, i0, i3, i9, i42, i43, i44]
      refine cald_eq hs2 ?_
      simp only [go_sem, Nat.reduceEqDiff, Nat.reduceBEq, Int.reduceToNat, Int.reduceLT, Int.reduceLE, Int.reduceEq, Nat.reduceLeDiff, Nat.reduceLT, Nat.reduceMul, Nat.reduceAdd, String.reduceEq, i0, i3, i9, i42, i43, i44, hw3]
      refine hQ .ret _ ?_; exact post_ret _ _ (ii (n + (if X.1 < Y.1 then Y.1 else X.1))) (by simp only [go_sem, Nat.reduceEqDiff, Nat.reduceBEq, Int.reduceToNat, Int.reduceLT, Int.reduceLE, Int.reduceEq, Nat.reduceLeDiff, Nat.reduceLT, Nat.reduceMul, Nat.reduceAdd, String.reduceEq]) rfl (DropW.ck0 B cs (Y.2) R rw_) ⟨by rw [hgo], by rw [hgo]⟩
  rw [if_neg k6] at hgo
  simp only [go_sem, Nat.reduceEqDiff, Nat.reduceBEq, Int.reduceToNat, Int.reduceLT, Int.reduceLE, Int.reduceEq, Nat.reduceLeDiff, Nat.reduceLT, Nat.reduceMul, Nat.reduceAdd, String.reduceEq, k6]
  refine hQ .normal _ ?_; clear hQ Q
  refine TS.cond (t := false) (by simp only [go_sem, Nat.reduceEqDiff, Nat.reduceBEq, Int.reduceToNat, Int.reduceLT, Int.reduceLE, Int.reduceEq, Nat.reduceLeDiff, Nat.reduceLT, Nat.reduceMul, Nat.reduceAdd, String.reduceEq, k6]) ?_
  by_cases k78 : s.k = 7 ∨ s.k = 8
  · rw [if_pos k78] at hgo
    have hk1 : ¬ (8 : Int) = 7 := by decide
    have hd := declare_sim cs hok (by have := hok.ul; omega) s.s 1 s.p B R rw_
    have hok1 := hok.declare s.s (kind := 1) (fun _ => by decide) s.p
    generalize cs.declare s.s 1 s.p = D at hgo hd hok1
    by_cases hn : 64 < s.n
    · rw [if_pos hn] at hgo
      rcases k78 with k7 | k7
      · refine TS.of [] fun Q hQ => ?_
        simp only [go_sem, Nat.reduceEqDiff, Nat.reduceBEq, Int.reduceToNat, Int.reduceLT, Int.reduceLE, Int.reduceEq, Nat.reduceLeDiff, Nat.reduceLT, Nat.reduceMul, Nat.reduceAdd, String.reduceEq, k7]
        refine cal_eq hd ?_
        simp only [go_sem, Nat.reduceEqDiff, Nat.reduceBEq, Int.reduceToNat, Int.reduceLT, Int.reduceLE, Int.reduceEq, Nat.reduceLeDiff, Nat.reduceLT, Nat.reduceMul, Nat.reduceAdd, String.reduceEq, hn]
        refine cal_eq (fail_sim D 11 s.p B R rw_) ?_
        simp only [go_sem, Nat.reduceEqDiff, Nat.reduceBEq, Int.reduceToNat, Int.reduceLT, Int.reduceLE, Int.reduceEq, Nat.reduceLeDiff, Nat.reduceLT, Nat.reduceMul, Nat.reduceAdd, String.reduceEq]
        refine hQ .ret _ ?_; exact post_ret _ _ (ii 1) (by simp only [go_sem, Nat.reduceEqDiff, Nat.reduceBEq, Int.reduceToNat, Int.reduceLT, Int.reduceLE, Int.reduceEq, Nat.reduceLeDiff, Nat.reduceLT, Nat.reduceMul, Nat.reduceAdd, String.reduceEq]) rfl (DropW.ck0 B cs (D.fail 11 s.p) R rw_) ⟨by rw [hgo], by rw [hgo]⟩
      · refine TS.of [] fun Q hQ => ?_
        simp only [go_sem, Nat.reduceEqDiff, Nat.reduceBEq, Int.reduceToNat, Int.reduceLT, Int.reduceLE, Int.reduceEq, Nat.reduceLeDiff, Nat.reduceLT, Nat.reduceMul, Nat.reduceAdd, String.reduceEq, k7, hk1]
        refine cal_eq hd ?_
        simp only [go_sem, Nat.reduceEqDiff, Nat.reduceBEq, Int.reduceToNat, Int.reduceLT, Int.reduceLE, Int.reduceEq, Nat.reduceLeDiff, Nat.reduceLT, Nat.reduceMul, Nat.reduceAdd, String.reduceEq, hn]
        refine cal_eq (fail_sim D 11 s.p B R rw_) ?_
        simp only [go_sem, Nat.reduceEqDiff, Nat.reduceBEq, Int.reduceToNat, Int.reduceLT, Int.reduceLE, Int.reduceEq, Nat.reduceLeDiff, Nat.reduceLT, Nat.reduceMul, Nat.reduceAdd, String.reduceEq]
        refine hQ .ret _ ?_; exact post_ret _ _ (ii 1) (by simp only [go_sem, Nat.reduceEqDiff, Nat.reduceBEq, Int.reduceToNat, Int.reduceLT, Int.reduceLE, Int.reduceEq, Nat.reduceLeDiff, Nat.reduceLT, Nat.reduceMul, Nat.reduceAdd, String.reduceEq]) rfl (DropW.ck0 B cs (D.fail 11 s.p) R rw_) ⟨by rw [hgo], by rw [hgo]⟩
    · rw [if_neg hn] at hgo
      have hs1 := (ih (szt s.b) (by omega) s.b [s.s] D (Nat.le_refl _) hok1 hf3 (by simp)).mem B R rw_
      have hl1 := cloop_le s.b [s.s] 0 D hf3 (by omega)
      generalize cloop s.b [s.s] 0 D = X at hgo hs1 hl1
      have w1 : IntKind.i64.wrap (1 + X.1) = 1 + X.1 := wrap_small (by omega) (by omega)
      have hm : (if 2049 < 1 + X.1 then 2049 else 1 + X.1) ≤ 2049 ∧ 0 ≤ (if 2049 < 1 + X.1 then 2049 else 1 + X.1) := by split <;> omega
      have h5 : s.n * (if 2049 < 1 + X.1 then 2049 else 1 + X.1) ≤ 64 * 2049 := Int.mul_le_mul (by omega) hm.1 hm.2 (by omega)
      have h6 : 0 ≤ s.n * (if 2049 < 1 + X.1 then 2049 else 1 + X.1) := Int.mul_nonneg hf1 hm.2
      have w2 : IntKind.i64.wrap (s.n * (if 2049 < 1 + X.1 then 2049 else 1 + X.1)) = s.n * (if 2049 < 1 + X.1 then 2049 else 1 + X.1) := wrap_small (by omega) (by omega)
      have w3 : IntKind.i64.wrap (1 + s.n * (if 2049 < 1 + X.1 then 2049 else 1 + X.1)) = 1 + s.n * (if 2049 < 1 + X.1 then 2049 else 1 + X.1) := wrap_small (by omega) (by omega)
      rcases k78 with k7 | k7
      · refine TS.of [] fun Q hQ => ?_
        simp only [go_sem, Nat.reduceEqDiff, Nat.reduceBEq, Int.reduceToNat, Int.reduceLT, Int.reduceLE, Int.reduceEq, Nat.reduceLeDiff, Nat.reduceLT, Nat.reduceMul, Nat.reduceAdd, String.reduceEq, k7]
        refine cal_eq hd ?_
        simp only [go_sem, Nat.reduceEqDiff, Nat.reduceBEq, Int.reduceToNat, Int.reduceLT, Int.reduceLE, Int.reduceEq, Nat.reduceLeDiff, Nat.reduceLT, Nat.reduceMul, Nat.reduceAdd, String.reduceEq, hn]
        refine drn_of ⟨[82, 85, 87], [], []⟩ [0, 1, 0, 0, 8, 0, 32, 96, 252, 508, 1020, 2047, 4095, 8191] (by kernel_rfl) ?_
        simp only [go_sem, Nat.reduceEqDiff, Nat.reduceBEq, Int.reduceToNat, Int.reduceLT, Int.reduceLE, Int.reduceEq, Nat.reduceLeDiff, Nat.reduceLT, Nat.reduceMul, Nat.reduceAdd, String.reduceEq]
        refine cald_eq hs1 ?_
        simp only [go_sem, Nat.reduceEqDiff, Nat.reduceBEq, Int.reduceToNat, Int.reduceLT, Int.reduceLE, Int.reduceEq, Nat.reduceLeDiff, Nat.reduceLT, Nat.reduceMul, Nat.reduceAdd, String.reduceEq, w1, w2, w3]
        refine hQ .ret _ ?_; exact post_ret _ _ (ii (1 + s.n * (if 2049 < 1 + X.1 then 2049 else 1 + X.1))) (by simp only [go_sem, Nat.reduceEqDiff, Nat.reduceBEq, Int.reduceToNat, Int.reduceLT, Int.reduceLE, Int.reduceEq, Nat.reduceLeDiff, Nat.reduceLT, Nat.reduceMul, Nat.reduceAdd, String.reduceEq]) rfl (DropW.ck0 B cs (X.2) R rw_) ⟨by rw [hgo], by rw [hgo]⟩
      · refine TS.of [] fun Q hQ => ?_
        simp only [go_sem, Nat.reduceEqDiff, Nat.reduceBEq, Int.reduceToNat, Int.reduceLT, Int.reduceLE, Int.reduceEq, Nat.reduceLeDiff, Nat.reduceLT, Nat.reduceMul, Nat.reduceAdd, String.reduceEq, k7, hk1]
        refine cal_eq hd ?_
        simp only [go_sem, Nat.reduceEqDiff, Nat.reduceBEq, Int.reduceToNat, Int.reduceLT, Int.reduceLE, Int.reduceEq, Nat.reduceLeDiff, Nat.reduceLT, Nat.reduceMul, Nat.reduceAdd, String.reduceEq, hn]
        refine drn_of ⟨[82, 85, 87], [], []⟩ [0, 1, 0, 0, 8, 0, 32, 96, 252, 508, 1020, 2047, 4095, 8191] (by kernel_rfl) ?_
        simp only [go_sem, Nat.reduceEqDiff, Nat.reduceBEq, Int.reduceToNat, Int.reduceLT, Int.reduceLE, Int.reduceEq, Nat.reduceLeDiff, Nat.reduceLT, Nat.reduceMul, Nat.reduceAdd, String.reduceEq]
        refine cald_eq hs1 ?_
        simp only [go_sem, Nat.reduceEqDiff, Nat.reduceBEq, Int.reduceToNat, Int.reduceLT, Int.reduceLE, Int.reduceEq, Nat.reduceLeDiff, Nat.reduceLT, Nat.reduceMul, Nat.reduceAdd, String.reduceEq, w1, w2, w3]
        refine hQ .ret _ ?_; exact post_ret _ _ (ii (1 + s.n * (if 2049 < 1 + X.1 then 2049 else 1 + X.1))) (by simp only [go_sem, Nat.reduceEqDiff, Nat.reduceBEq, Int.reduceToNat, Int.reduceLT, Int.reduceLE, Int.reduceEq, Nat.reduceLeDiff, Nat.reduceLT, Nat.reduceMul, Nat.reduceAdd, String.reduceEq]) rfl (DropW.ck0 B cs (X.2) R rw_) ⟨by rw [hgo], by rw [hgo]⟩
  · rw [if_neg k78] at hgo
    have k7 : ¬ s.k = 7 := fun h => k78 (.inl h)
    have k8 : ¬ s.k = 8 := fun h => k78 (.inr h)
    have hc := changes_sim cs s.k B R rw_
    generalize cs.changes s.k = D at hgo hc
    have hs1 := numbers_sim s D (by omega) B R rw_
    have hl1 := cargs_le s.x 1 D
    rw [encT_eq] at hs1
    generalize cargs s.x 1 D = X at hgo hs1 hl1
    have w1 : IntKind.i64.wrap (1 + X.1) = 1 + X.1 := wrap_small (by omega) (by omega)
    refine TS.of [] fun Q hQ => ?_
    simp only [go_sem, Nat.reduceEqDiff, Nat.reduceBEq, Int.reduceToNat, Int.reduceLT, Int.reduceLE, Int.reduceEq, Nat.reduceLeDiff, Nat.reduceLT, Nat.reduceMul, Nat.reduceAdd, String.reduceEq, k7, k8]
    refine hQ .normal _ ?_; clear hQ Q
    refine TS.of [] fun Q hQ => ?_
    simp only [go_sem, Nat.reduceEqDiff, Nat.reduceBEq, Int.reduceToNat, Int.reduceLT, Int.reduceLE, Int.reduceEq, Nat.reduceLeDiff, Nat.reduceLT, Nat.reduceMul, Nat.reduceAdd, String.reduceEq]
    refine cal_eq hc ?_
    simp only [go_sem, Nat.reduceEqDiff, Nat.reduceBEq, Int.reduceToNat, Int.reduceLT, Int.reduceLE, Int.reduceEq, Nat.reduceLeDiff, Nat.reduceLT, Nat.reduceMul, Nat.reduceAdd, String.reduceEq]
    refine cal_eq hs1 ?_
    simp only [go_sem, Nat.reduceEqDiff, Nat.reduceBEq, Int.reduceToNat, Int.reduceLT, Int.reduceLE, Int.reduceEq, Nat.reduceLeDiff, Nat.reduceLT, Nat.reduceMul, Nat.reduceAdd, String.reduceEq, w1]
    refine hQ .ret _ ?_; exact post_ret _ _ (ii (1 + X.1)) (by simp only [go_sem, Nat.reduceEqDiff, Nat.reduceBEq, Int.reduceToNat, Int.reduceLT, Int.reduceLE, Int.reduceEq, Nat.reduceLeDiff, Nat.reduceLT, Nat.reduceMul, Nat.reduceAdd, String.reduceEq]) rfl (DropW.ck0 B cs (X.2) R rw_) ⟨by rw [hgo], by rw [hgo]⟩
theorem check_block : ∀ N, N < 800000 → TC N ∧ BC N := by
  intro N
  induction N using Nat.strongRecOn with
  | ind N ih =>
    intro hN
    have hT : TC N := stmt_cstep hN (fun M h => (ih M h (by omega)).2)
    exact ⟨hT, block_cstep hN hT⟩
theorem cloop_sim (l : List Stmt) (cs : CS) (h : szt l < 800000) (hok : cs.ok) (hf : fineTs l) : SimC 59 [slT l, .sl .full 0 []] cs (ii (cloop l [] 0 cs).1) (cloop l [] 0 cs).2 := (check_block _ h).2 l [] cs (Nat.le_refl _) hok hf (by simp)
end Go.Proofs.Ytphjldhdnmoolaa.A
/- The walks of some functions over the abstract machine. -/
namespace Go.Proofs.Ytphjldhdnmoolaa.A
open Go
theorem add11 (n : Nat) : n + 1 + 1 = n + 2 := rfl
abbrev CM1 (o : List IObj) (r : IObj) (cs : CS) (R : List IObj) : List IObj := o ++ (r :: .map (encM cs.kn) cs.kc :: .map (encM cs.us) cs.uc :: .cells (cellsC (o.length + 1) cs) :: R)
theorem CM1_eq (o : List IObj) (r : IObj) (cs : CS) (R : List IObj) : CM (o ++ [r]) cs R = CM1 o r cs R := by simp [CM, CM1]
theorem SimC.at_ {f : FuncId} {args : List IV} {cs cs' : CS} {r : IV} (h : SimC f args cs r cs') (o : List IObj) (r0 : IObj) (R : List IObj) (rw_ : List Nat) : Sim f (.ptr (o.length + 3) 0 :: args) ⟨CM1 o r0 cs R, rw_⟩ (fun x m' => x = r ∧ m' = ⟨CM1 o r0 cs' R, rw_⟩) := by
  have := h (o ++ [r0]) R rw_
  rw [CM1_eq, CM1_eq] at this
  simpa using this
theorem DropW.ck1 (o : List IObj) (r0 : IObj) (cs cs' : CS) (X : List IObj) (rw_ : List Nat) : DropW ⟨CM1 o r0 cs [], rw_⟩ (o.length + 4) rw_.length ⟨CM1 o r0 cs' X, rw_⟩ ⟨CM1 o r0 cs' [], rw_⟩ := by
  have := DropW.ckX (o ++ [r0]) cs cs' [] rw_ X
  simp only [CM1_eq, List.nil_append, List.length_append, List.length_cons, List.length_nil] at this
  have e : o.length + (0 + 1) + (0 + 3) = o.length + 4 := by omega
  rw [e] at this
  exact this
def decl : List Bytes → CS → CS
  | [], cs => cs
  | p :: l, cs => decl l (cs.declare p 1 0)
def relet : List Stmt → CS → CS
  | [], cs => cs
  | s :: l, cs => relet l (if s.k = 1 ∧ cs.ft = none then { cs with kn := (putM s.s ((getM s.s cs.us).getD 0) cs.kn cs.kc).1, kc := (putM s.s ((getM s.s cs.us).getD 0) cs.kn cs.kc).2 } else cs)
abbrev cs0 : CS := ⟨[], 0, [], 0, none, false, 1, true⟩
def chkA (d : Def) : CS := decl d.params (if 8 < d.params.length then cs0.fail 15 0 else cs0)
def chkN (d : Def) : Int × CS := cargs d.needs 2 (chkA d)
def chkB (d : Def) : Int × CS := cloop d.body [] 0 { (chkN d).2 with rd := false }
def chkT (cs : CS) : CS := if cs.rd then { cs with tn := false } else cs
def chkG (d : Def) : Int × CS := cargs d.give 1 (relet d.body (chkT (chkB d).2))
def chkM (rd : Bool) (cs : CS) : CS := if (cs.rd || rd) && decide (cs.md = 2) then { cs with rd := cs.rd || rd, md := 3 } else { cs with rd := cs.rd || rd }
def chkSteps (d : Def) : Int := (chkN d).1 + (chkG d).1 + (chkB d).1
def chkF (d : Def) : CS := if 2048 < chkSteps d then (chkM (chkN d).2.rd (chkG d).2).fail 11 0 else chkM (chkN d).2.rd (chkG d).2
structure Info where
  mode : Int
  steps : Int
  names : Int
  turns : Bool
abbrev Info0 : Info := ⟨0, 0, 0, false⟩
abbrev encI (i : Info) : List IV := [ii i.mode, ii i.steps, ii i.names, bb i.turns]
def check (d : Def) : Info × Option (Int × Int) := match (chkF d).ft with
  | some p => (Info0, some p)
  | none => (⟨(chkF d).md, chkSteps d, (chkF d).us.length, (chkF d).tn⟩, none)
def errI : Option (Int × Int) → IV
  | none => .v .nilIface
  | some p => .iface 109 (.ref [ii p.1, ii p.2])
theorem errI_none : errI none = .v .nilIface := rfl
theorem errI_some {p : Int × Int} : errI (some p) = .iface 109 (.ref [ii p.1, ii p.2]) := rfl
theorem cs0_ok : cs0.ok := ⟨by simp, by simp, by simp, by simp, by simp, by simp⟩
theorem decl_ok : ∀ (l : List Bytes) (cs : CS), cs.ok → (decl l cs).ok
  | [], cs, h => h
  | p :: l, cs, h => by rw [decl]; exact decl_ok l _ (h.declare p (fun _ => by decide) 0)
theorem getM_repl {s : Bytes} {v : Int} {t : Bytes} : ∀ {l : List Ent}, getM t (repl s v l) = none ↔ getM t l = none
  | [] => Iff.rfl
  | e :: l => by
    unfold repl
    split
    · rename_i h; subst h; unfold getM; simp only; split <;> simp
    · unfold getM; split
      · simp
      · exact getM_repl
structure DefOK (d : Def) : Prop where
  size : szs d.needs + szt d.body + szs d.give < 800000
  params : d.params.length < 800000
  fine : fineTs d.body
theorem rd_ok {cs : CS} (h : cs.ok) (b : Bool) : CS.ok { cs with rd := b } := ⟨h.kb, h.ub, h.pos, h.sub, h.kpos, h.ul⟩
theorem chkA_ok (d : Def) : (chkA d).ok := by
  unfold chkA; refine decl_ok _ _ ?_; split
  · exact cs0_ok.names (names.fail _ _ _)
  · exact cs0_ok
theorem chkN_ok (d : Def) : (chkN d).2.ok := (chkA_ok d).names (cargs_names _ _ _)
theorem chkB_ok (d : Def) (h : fineTs d.body) : (chkB d).2.ok := cloop_ok _ _ _ _ (rd_ok (chkN_ok d) false) h
set_option maxRecDepth 100000 in
set_option maxHeartbeats 4000000 in
theorem check_sim (m : Mem) (d : Def) (hd : DefOK d) : Sim 28 [.agg (encD d)] m (fun r m' => r = .tup [.agg (encI (check d).1), errI (check d).2] ∧ m' = m) := by
  obtain ⟨hds, hdp, hdf⟩ := hd
  have hl1 := szs_len d.needs
  have hl2 := szt_len d.body
  have hl3 := szs_len d.give
  refine Sim.ofS 176 [.cell 2 31, .tmp 3] Try.func28 rfl rfl rfl (by simp) fun wr => ?_
  simp only [go_sem, Nat.reduceEqDiff, Nat.reduceBEq, Int.reduceToNat, Int.reduceLT, Int.reduceLE, Int.reduceEq, Nat.reduceLeDiff, Nat.reduceLT, Nat.reduceMul, Nat.reduceAdd, String.reduceEq]
  generalize hr0 : (IObj.cells [ii 0, ii 0, ii 0, bb false]) = r0
  refine TS.seq (TS.of [1] fun Q hQ => ?_)
  simp only [go_sem, Nat.reduceEqDiff, Nat.reduceBEq, Int.reduceToNat, Int.reduceLT, Int.reduceLE, Int.reduceEq, Nat.reduceLeDiff, Nat.reduceLT, Nat.reduceMul, Nat.reduceAdd, String.reduceEq, encD]
  refine hQ .normal _ ?_; clear hQ Q
  refine TS.seq (TS.of [] fun Q hQ => ?_)
  simp only [go_sem, Nat.reduceEqDiff, Nat.reduceBEq, Int.reduceToNat, Int.reduceLT, Int.reduceLE, Int.reduceEq, Nat.reduceLeDiff, Nat.reduceLT, Nat.reduceMul, Nat.reduceAdd, String.reduceEq, encD]
  refine hQ .normal _ ?_; clear hQ Q
  rw [show (IObj.cells [IV.v (Value.int IntKind.i64 0), IV.v (Value.int IntKind.i64 0), IV.v (Value.int IntKind.i64 0), IV.v (Value.bool false)]) = r0 from hr0]
  have hcA : chkA d = decl d.params (if 8 < d.params.length then cs0.fail 15 0 else cs0) := rfl
  generalize hc1 : (if 8 < d.params.length then cs0.fail 15 0 else cs0) = c1 at hcA
  refine TS.seq (TS.mono (Q := fun e s => e = .normal ∧ (s.t 1 = .ref (encD d) ∧ s.t 2 = .ptr m.objs.length 0 ∧ s.t 3 = .v .nilIface ∧ s.t 4 = .ptr (m.objs.length + 3) 0) ∧ s.m = ⟨CM1 m.objs r0 c1 [], m.rows⟩) ?_ ?_)
  · refine TS.of [] fun Q hQ => ?_
    by_cases h8 : 8 < d.params.length
    · have h8' : (8 : Int) < (d.params.length : Int) := by omega
      rw [if_pos h8] at hc1
      simp only [go_sem, Nat.reduceEqDiff, Nat.reduceBEq, Int.reduceToNat, Int.reduceLT, Int.reduceLE, Int.reduceEq, Nat.reduceLeDiff, Nat.reduceLT, Nat.reduceMul, Nat.reduceAdd, String.reduceEq, h8']
      refine cal_eq ((fail_sim cs0 15 0).at_ m.objs r0 [] m.rows) ?_
      simp only [go_sem, Nat.reduceEqDiff, Nat.reduceBEq, Int.reduceToNat, Int.reduceLT, Int.reduceLE, Int.reduceEq, Nat.reduceLeDiff, Nat.reduceLT, Nat.reduceMul, Nat.reduceAdd, String.reduceEq]
      refine hQ .normal _ ?_; clear hQ Q
      exact ⟨rfl, by simp [upd_apply], by rw [← hc1]⟩
    · have h8' : ¬ (8 : Int) < (d.params.length : Int) := by omega
      rw [if_neg h8] at hc1
      simp only [go_sem, Nat.reduceEqDiff, Nat.reduceBEq, Int.reduceToNat, Int.reduceLT, Int.reduceLE, Int.reduceEq, Nat.reduceLeDiff, Nat.reduceLT, Nat.reduceMul, Nat.reduceAdd, String.reduceEq, h8']
      refine hQ .normal _ ?_; clear hQ Q
      exact ⟨rfl, by simp [upd_apply], by rw [← hc1]; rfl⟩
  rintro e s1 ⟨rfl, ⟨i1, i2, i3, i4⟩, hm1⟩
  have hokc1 : c1.ok := by rw [← hc1]; split; exact cs0_ok.names (names.fail _ _ _); exact cs0_ok
  -- the parameters
  refine TS.seq (TS.mono (Q := fun e s => e = .normal ∧ (s.t 1 = .ref (encD d) ∧ s.t 2 = .ptr m.objs.length 0 ∧ s.t 3 = .v .nilIface ∧ s.t 4 = .ptr (m.objs.length + 3) 0) ∧ s.m = ⟨CM1 m.objs r0 (chkA d) [], m.rows⟩) ?_ ?_)
  · refine TS.seq (TS.of [] fun Q hQ => ?_)
    simp only [go_sem, Nat.reduceEqDiff, Nat.reduceBEq, Int.reduceToNat, Int.reduceLT, Int.reduceLE, Int.reduceEq, Nat.reduceLeDiff, Nat.reduceLT, Nat.reduceMul, Nat.reduceAdd, String.reduceEq, i1, i2, i3, i4, hm1]
    refine hQ .normal _ ?_; clear hQ Q
    refine TS.block (TS.loop (α := Nat × CS) (fun x => [(1, .ref (encD d)), (2, .ptr m.objs.length 0), (3, .v .nilIface), (4, .ptr (m.objs.length + 3) 0), (28, slS d.params), (29, ii d.params.length), (30, ii x.1)]) (fun x => ⟨CM1 m.objs r0 x.2 [], m.rows⟩) (fun x => x.1 ≤ d.params.length ∧ x.2.ok ∧ decl (d.params.drop x.1) x.2 = chkA d) (fun x => d.params.length - x.1) (0, c1) (by simp) ⟨by simp [Has, upd_apply, i1, i2, i3, i4], rfl, by simp [hokc1, hcA]⟩ ?_)
    rintro ⟨k, c⟩ st hH hm ⟨hk, hok, hc⟩
    dsimp only at hH hm hk hok hc
    simp only [Has, List.mem_cons, List.not_mem_nil, or_false, forall_eq_or_imp, forall_eq] at hH; obtain ⟨j1, j2, j3, j4, j28, j29, j30⟩ := hH
    by_cases hlt : k < d.params.length
    · obtain ⟨x, hx⟩ : ∃ x, d.params[k]? = some x := ⟨_, List.getElem?_eq_getElem hlt⟩
      have hdr : d.params.drop k = x :: d.params.drop (k + 1) := by rw [List.drop_eq_getElem_cons hlt]; congr 1; exact Option.some.inj ((List.getElem?_eq_getElem hlt).symm.trans hx)
      have hat : (d.params.map (fun s => (IV.v (.string s)))).drop k = ss x :: (d.params.drop (k + 1)).map (fun s => (IV.v (.string s))) := by rw [← List.map_drop, hdr]; rfl
      have hlt1 : k < (d.params.map (fun s => (IV.v (.string s)))).length := by simpa using hlt
      have hw := wrap_succ hlt (by omega)
      rw [hdr, decl] at hc
      refine TS.of [] fun Q hQ => ?_
      simp only [go_sem, Nat.reduceEqDiff, Nat.reduceBEq, Int.reduceToNat, Int.reduceLT, Int.reduceLE, Int.reduceEq, Nat.reduceLeDiff, Nat.reduceLT, Nat.reduceMul, Nat.reduceAdd, String.reduceEq, j1, j2, j3, j4, j28, j29, j30, hm, hlt, hat, hlt1]
      refine cal_eq ((declare_sim c hok (by have := hok.ul; omega) x 1 0).at_ m.objs r0 [] m.rows) ?_
      simp only [go_sem, Nat.reduceEqDiff, Nat.reduceBEq, Int.reduceToNat, Int.reduceLT, Int.reduceLE, Int.reduceEq, Nat.reduceLeDiff, Nat.reduceLT, Nat.reduceMul, Nat.reduceAdd, String.reduceEq, j1, j2, j3, j4, j28, j29, j30, hw]
      refine hQ .normal _ ?_; clear hQ Q
      refine ⟨_, _, (k + 1, c.declare x 1 0), DropW.ck1 m.objs r0 c _ [] m.rows, ?_, ⟨hlt, hok.declare x (fun _ => by decide) 0, hc⟩, by dsimp only; omega⟩
      simp [upd_apply, j1, j2, j3, j4, j28, j29, IV.np, np_sh, npS, npEs, npTs, npL] <;> omega
    · have : d.params.drop k = [] := List.drop_eq_nil_of_le (by omega)
      rw [this, decl] at hc
      refine TS.of [] fun Q hQ => ?_
      simp only [go_sem, Nat.reduceEqDiff, Nat.reduceBEq, Int.reduceToNat, Int.reduceLT, Int.reduceLE, Int.reduceEq, Nat.reduceLeDiff, Nat.reduceLT, Nat.reduceMul, Nat.reduceAdd, String.reduceEq, j1, j2, j3, j4, j28, j29, j30, hm, hlt]
      refine hQ (.exit 0) _ ?_; clear hQ Q
      exact ⟨rfl, by simp [upd_apply, j1, j2, j3, j4], by rw [← hc]⟩
  clear i1 i2 i3 i4 hm1
  rintro e s2 ⟨rfl, ⟨i1, i2, i3, i4⟩, hm2⟩
  refine TS.seq (TS.of [] fun Q hQ => ?_)
  simp only [go_sem, Nat.reduceEqDiff, Nat.reduceBEq, Int.reduceToNat, Int.reduceLT, Int.reduceLE, Int.reduceEq, Nat.reduceLeDiff, Nat.reduceLT, Nat.reduceMul, Nat.reduceAdd, String.reduceEq, i1, i2, i3, i4, hm2]
  refine hQ .normal _ ?_; clear hQ Q
  -- the needs
  have hokA := chkA_ok d
  have hNle := cargs_le d.needs 2 (chkA d)
  have hN : chkN d = cargs d.needs 2 (chkA d) := rfl
  rw [← hN] at hNle
  refine TS.seq (TS.mono (Q := fun e s => e = .normal ∧ (s.t 1 = .ref (encD d) ∧ s.t 2 = .ptr m.objs.length 0 ∧ s.t 3 = .v .nilIface ∧ s.t 4 = .ptr (m.objs.length + 3) 0 ∧ s.t 7 = ii (chkN d).1) ∧ s.m = ⟨CM1 m.objs r0 (chkN d).2 [], m.rows⟩) ?_ ?_)
  · refine TS.seq (TS.of [] fun Q hQ => ?_)
    simp only [go_sem, Nat.reduceEqDiff, Nat.reduceBEq, Int.reduceToNat, Int.reduceLT, Int.reduceLE, Int.reduceEq, Nat.reduceLeDiff, Nat.reduceLT, Nat.reduceMul, Nat.reduceAdd, String.reduceEq, i1, i2, i3, i4, hm2]
    refine hQ .normal _ ?_; clear hQ Q
    refine TS.block (TS.loop (α := Nat × Int × CS) (fun x => [(1, .ref (encD d)), (2, .ptr m.objs.length 0), (3, .v .nilIface), (4, .ptr (m.objs.length + 3) 0), (7, ii x.2.1), (39, slE d.needs), (40, ii d.needs.length), (41, ii x.1)]) (fun x => ⟨CM1 m.objs r0 x.2.2 [], m.rows⟩) (fun x => x.1 ≤ d.needs.length ∧ 0 ≤ x.2.1 ∧ x.2.1 + szs (d.needs.drop x.1) ≤ szs d.needs ∧ x.2.1 + (cargs (d.needs.drop x.1) 2 x.2.2).1 = (chkN d).1 ∧ (cargs (d.needs.drop x.1) 2 x.2.2).2 = (chkN d).2) (fun x => d.needs.length - x.1) (0, 0, chkA d) (by simp) ⟨by simp [Has, upd_apply, i1, i2, i3, i4], rfl, by simp [hN]⟩ ?_)
    rintro ⟨k, n, c⟩ st hH hm ⟨hk, hn0, hn1, hc1', hc2'⟩
    dsimp only at hH hm hk hn0 hn1 hc1' hc2'
    simp only [Has, List.mem_cons, List.not_mem_nil, or_false, forall_eq_or_imp, forall_eq] at hH; obtain ⟨j1, j2, j3, j4, j7, j39, j40, j41⟩ := hH
    by_cases hlt : k < d.needs.length
    · obtain ⟨x, hx⟩ : ∃ x, d.needs[k]? = some x := ⟨_, List.getElem?_eq_getElem hlt⟩
      have hdr : d.needs.drop k = x :: d.needs.drop (k + 1) := by rw [List.drop_eq_getElem_cons hlt]; congr 1; exact Option.some.inj ((List.getElem?_eq_getElem hlt).symm.trans hx)
      have hat := encEs_at hx
      have hlt5 : k * 5 < (encEs d.needs).length := by rw [encEs_length]; omega
      have hw := wrap_succ hlt (by omega)
      have hszx := szE_at hx
      rw [hdr, cargs_cons] at hc1' hc2'
      rw [hdr, szs] at hn1
      have hcw : 0 ≤ (cwant x 2 c).1 ∧ (cwant x 2 c).1 ≤ szE x := cexpr_le x c
      have hsub := (cwant_sim x 2 c (by omega)).at_ m.objs r0 [.cells (encE x)] m.rows
      rw [encE_eq] at hsub
      generalize cwant x 2 c = X at hc1' hc2' hsub hcw
      have hw2 : IntKind.i64.wrap (n + X.1) = n + X.1 := wrap_small (by omega) (by omega)
      refine TS.of [] fun Q hQ => ?_
      simp only [go_sem, Nat.reduceEqDiff, Nat.reduceBEq, Int.reduceToNat, Int.reduceLT, Int.reduceLE, Int.reduceEq, Nat.reduceLeDiff, Nat.reduceLT, Nat.reduceMul, Nat.reduceAdd, String.reduceEq, j1, j2, j3, j4, j7, j39, j40, j41, hm, hlt, hat, hlt5]
      refine cal_eq hsub ?_
      simp only [go_sem, Nat.reduceEqDiff, Nat.reduceBEq, Int.reduceToNat, Int.reduceLT, Int.reduceLE, Int.reduceEq, Nat.reduceLeDiff, Nat.reduceLT, Nat.reduceMul, Nat.reduceAdd, String.reduceEq, j1, j2, j3, j4, j7, j39, j40, j41, hw, hw2]
      refine hQ .normal _ ?_; clear hQ Q
      refine ⟨_, _, (k + 1, n + X.1, X.2), DropW.ck1 m.objs r0 c X.2 [_] m.rows, ?_, ⟨hlt, by dsimp only; omega, by dsimp only; omega, by dsimp only at hc1' ⊢; omega, hc2'⟩, by dsimp only; omega⟩
      simp [upd_apply, j1, j2, j3, j4, j39, j40, IV.np, np_sh, npS, npEs, npTs, npL] <;> omega
    · have : d.needs.drop k = [] := List.drop_eq_nil_of_le (by omega)
      rw [this] at hc1' hc2'
      simp only [cargs] at hc1' hc2'
      refine TS.of [] fun Q hQ => ?_
      simp only [go_sem, Nat.reduceEqDiff, Nat.reduceBEq, Int.reduceToNat, Int.reduceLT, Int.reduceLE, Int.reduceEq, Nat.reduceLeDiff, Nat.reduceLT, Nat.reduceMul, Nat.reduceAdd, String.reduceEq, j1, j2, j3, j4, j7, j39, j40, j41, hm, hlt]
      refine hQ (.exit 2) _ ?_; clear hQ Q
      exact ⟨rfl, by simp [upd_apply, j1, j2, j3, j4, j7]; omega, by rw [← hc2']⟩
  clear i1 i2 i3 i4 hm2
  rintro e s3 ⟨rfl, ⟨i1, i2, i3, i4, i7⟩, hm3⟩
  refine TS.seq (TS.of [] fun Q hQ => ?_)
  simp only [go_sem, Nat.reduceEqDiff, Nat.reduceBEq, Int.reduceToNat, Int.reduceLT, Int.reduceLE, Int.reduceEq, Nat.reduceLeDiff, Nat.reduceLT, Nat.reduceMul, Nat.reduceAdd, String.reduceEq, i1, i2, i3, i4, i7, hm3]
  refine hQ .normal _ ?_; clear hQ Q
  refine TS.seq (TS.of [] fun Q hQ => ?_)
  simp only [go_sem, Nat.reduceEqDiff, Nat.reduceBEq, Int.reduceToNat, Int.reduceLT, Int.reduceLE, Int.reduceEq, Nat.reduceLeDiff, Nat.reduceLT, Nat.reduceMul, Nat.reduceAdd, String.reduceEq, i1, i2, i3, i4, i7]
  refine hQ .normal _ ?_; clear hQ Q
  have hokN := chkN_ok d
  have hB : chkB d = cloop d.body [] 0 { (chkN d).2 with rd := false } := rfl
  have hBle := cloop_le d.body [] 0 { (chkN d).2 with rd := false } hdf (by omega)
  rw [← hB] at hBle
  have hsB := (cloop_sim d.body { (chkN d).2 with rd := false } (by omega) (rd_ok hokN false) hdf).at_ m.objs r0 [] m.rows
  rw [← hB] at hsB
  refine TS.seq (TS.of [] fun Q hQ => ?_)
  simp only [go_sem, Nat.reduceEqDiff, Nat.reduceBEq, Int.reduceToNat, Int.reduceLT, Int.reduceLE, Int.reduceEq, Nat.reduceLeDiff, Nat.reduceLT, Nat.reduceMul, Nat.reduceAdd, String.reduceEq, i1, i2, i3, i4, i7]
  refine cal_eq hsB ?_
  simp only [go_sem, Nat.reduceEqDiff, Nat.reduceBEq, Int.reduceToNat, Int.reduceLT, Int.reduceLE, Int.reduceEq, Nat.reduceLeDiff, Nat.reduceLT, Nat.reduceMul, Nat.reduceAdd, String.reduceEq, i1, i2, i3, i4, i7]
  refine hQ .normal _ ?_; clear hQ Q
  -- the body's turns
  have hokB := chkB_ok d hdf
  generalize hb5 : (chkB d).2 = c5 at hsB hokB ⊢
  refine TS.seq (TS.mono (Q := fun e s => e = .normal ∧ (s.t 1 = .ref (encD d) ∧ s.t 2 = .ptr m.objs.length 0 ∧ s.t 3 = .v .nilIface ∧ s.t 4 = .ptr (m.objs.length + 3) 0 ∧ s.t 7 = ii (chkN d).1 ∧ s.t 10 = bb (chkN d).2.rd ∧ s.t 11 = ii (chkB d).1) ∧ s.m = ⟨CM1 m.objs r0 (chkT c5) [], m.rows⟩) ?_ ?_)
  · cases hrd : c5.rd with
    | true =>
      have ht : chkT c5 = { c5 with tn := false } := by simp [chkT, hrd]
      refine TS.of [] fun Q hQ => ?_
      simp only [go_sem, Nat.reduceEqDiff, Nat.reduceBEq, Int.reduceToNat, Int.reduceLT, Int.reduceLE, Int.reduceEq, Nat.reduceLeDiff, Nat.reduceLT, Nat.reduceMul, Nat.reduceAdd, String.reduceEq, i1, i2, i3, i4, i7, hrd]
      refine hQ .normal _ ?_; clear hQ Q
      exact ⟨rfl, by simp [upd_apply, i1, i2, i3, i4, i7], by rw [ht] <;> simp [hrd]⟩
    | false =>
      have ht : chkT c5 = c5 := by simp [chkT, hrd]
      refine TS.of [] fun Q hQ => ?_
      simp only [go_sem, Nat.reduceEqDiff, Nat.reduceBEq, Int.reduceToNat, Int.reduceLT, Int.reduceLE, Int.reduceEq, Nat.reduceLeDiff, Nat.reduceLT, Nat.reduceMul, Nat.reduceAdd, String.reduceEq, i1, i2, i3, i4, i7, hrd]
      refine hQ .normal _ ?_; clear hQ Q
      exact ⟨rfl, by simp [upd_apply, i1, i2, i3, i4, i7], by rw [ht] <;> simp [hrd]⟩
  clear i1 i2 i3 i4 i7 hm3
  rintro e s4 ⟨rfl, ⟨i1, i2, i3, i4, i7, i10, i11⟩, hm4⟩
  generalize hc6 : chkT c5 = c6 at hm4
  generalize hc7 : relet d.body c6 = c7
  -- the lets again
  refine TS.seq (TS.mono (Q := fun e s => e = .normal ∧ (s.t 1 = .ref (encD d) ∧ s.t 2 = .ptr m.objs.length 0 ∧ s.t 3 = .v .nilIface ∧ s.t 4 = .ptr (m.objs.length + 3) 0 ∧ s.t 7 = ii (chkN d).1 ∧ s.t 10 = bb (chkN d).2.rd ∧ s.t 11 = ii (chkB d).1) ∧ s.m = ⟨CM1 m.objs r0 c7 [], m.rows⟩) ?_ ?_)
  · refine TS.seq (TS.of [] fun Q hQ => ?_)
    simp only [go_sem, Nat.reduceEqDiff, Nat.reduceBEq, Int.reduceToNat, Int.reduceLT, Int.reduceLE, Int.reduceEq, Nat.reduceLeDiff, Nat.reduceLT, Nat.reduceMul, Nat.reduceAdd, String.reduceEq, i1, i2, i3, i4, i7, i10, i11, hm4]
    refine hQ .normal _ ?_; clear hQ Q
    refine TS.block (TS.loop (α := Nat × CS) (fun x => [(1, .ref (encD d)), (2, .ptr m.objs.length 0), (3, .v .nilIface), (4, .ptr (m.objs.length + 3) 0), (7, ii (chkN d).1), (10, bb (chkN d).2.rd), (11, ii (chkB d).1), (71, slT d.body), (72, ii d.body.length), (73, ii x.1)]) (fun x => ⟨CM1 m.objs r0 x.2 [], m.rows⟩) (fun x => x.1 ≤ d.body.length ∧ relet (d.body.drop x.1) x.2 = c7) (fun x => d.body.length - x.1) (0, c6) (by simp) ⟨by simp [Has, upd_apply, i1, i2, i3, i4, i7, i10, i11], rfl, by simp [hc7]⟩ ?_)
    rintro ⟨k, c⟩ st hH hm ⟨hk, hc⟩
    dsimp only at hH hm hk hc
    simp only [Has, List.mem_cons, List.not_mem_nil, or_false, forall_eq_or_imp, forall_eq] at hH; obtain ⟨j1, j2, j3, j4, j7, j10, j11, j71, j72, j73⟩ := hH
    by_cases hlt : k < d.body.length
    · obtain ⟨x, hx⟩ : ∃ x, d.body[k]? = some x := ⟨_, List.getElem?_eq_getElem hlt⟩
      have hdr : d.body.drop k = x :: d.body.drop (k + 1) := by rw [List.drop_eq_getElem_cons hlt]; congr 1; exact Option.some.inj ((List.getElem?_eq_getElem hlt).symm.trans hx)
      have hat := encTs_at hx
      have hlt7 : k * 7 < (encTs d.body).length := by rw [encTs_length]; omega
      have hw := wrap_succ hlt (by omega)
      rw [hdr, relet] at hc
      by_cases k1 : x.k = 1
      · cases hf : c.ft with
        | none =>
          rw [if_pos ⟨k1, hf⟩] at hc
          refine TS.of [] fun Q hQ => ?_
          simp only [go_sem, Nat.reduceEqDiff, Nat.reduceBEq, Int.reduceToNat, Int.reduceLT, Int.reduceLE, Int.reduceEq, Nat.reduceLeDiff, Nat.reduceLT, Nat.reduceMul, Nat.reduceAdd, String.reduceEq, j1, j2, j3, j4, j7, j10, j11, j71, j72, j73, hm, hlt, hat, hlt7, k1, hf, ftI_none]
          refine drn_of ⟨[], [], []⟩ [0, 1, 3, 7, 0, 16, 0, 64, 192, 448, 0, 1024, 4032, 8191] (by kernel_rfl) ?_
          simp only [go_sem, Nat.reduceEqDiff, Nat.reduceBEq, Int.reduceToNat, Int.reduceLT, Int.reduceLE, Int.reduceEq, Nat.reduceLeDiff, Nat.reduceLT, Nat.reduceMul, Nat.reduceAdd, String.reduceEq, j1, j2, j3, j4, j7, j10, j11, j71, j72, j73, hw, Mem.map_, mlook_enc, mval_enc, mupd_enc, add11]
          refine hQ .normal _ ?_; clear hQ Q
          refine ⟨m.objs.length + 4, m.rows.length, (k + 1, { c with kn := (putM x.s ((getM x.s c.us).getD 0) c.kn c.kc).1, kc := (putM x.s ((getM x.s c.us).getD 0) c.kn c.kc).2 }), ?_, ?_, ⟨hlt, hc⟩, by dsimp only; omega⟩
          · rw [← ftI_none, ← hf]
            exact DropW.ck1 m.objs r0 c { c with kn := (putM x.s ((getM x.s c.us).getD 0) c.kn c.kc).1, kc := (putM x.s ((getM x.s c.us).getD 0) c.kn c.kc).2 } [_] m.rows
          · simp [upd_apply, j1, j2, j3, j4, j7, j10, j11, j71, j72, IV.np, np_sh, npS, npEs, npTs, npL] <;> omega
        | some p =>
          rw [if_neg (by rintro ⟨_, h⟩; rw [hf] at h; cases h)] at hc
          refine TS.of [] fun Q hQ => ?_
          simp only [go_sem, Nat.reduceEqDiff, Nat.reduceBEq, Int.reduceToNat, Int.reduceLT, Int.reduceLE, Int.reduceEq, Nat.reduceLeDiff, Nat.reduceLT, Nat.reduceMul, Nat.reduceAdd, String.reduceEq, j1, j2, j3, j4, j7, j10, j11, j71, j72, j73, hm, hlt, hat, hlt7, k1, hf, ftI_some, hw]
          refine hQ .normal _ ?_; clear hQ Q
          refine ⟨m.objs.length + 4, m.rows.length, (k + 1, c), ?_, ?_, ⟨hlt, hc⟩, by dsimp only; omega⟩
          · rw [← ftI_some, ← hf]
            exact DropW.ck1 m.objs r0 c c [_] m.rows
          · simp [upd_apply, j1, j2, j3, j4, j7, j10, j11, j71, j72, IV.np, np_sh, npS, npEs, npTs, npL] <;> omega
      · rw [if_neg (by rintro ⟨h, _⟩; exact k1 h)] at hc
        refine TS.of [] fun Q hQ => ?_
        simp only [go_sem, Nat.reduceEqDiff, Nat.reduceBEq, Int.reduceToNat, Int.reduceLT, Int.reduceLE, Int.reduceEq, Nat.reduceLeDiff, Nat.reduceLT, Nat.reduceMul, Nat.reduceAdd, String.reduceEq, j1, j2, j3, j4, j7, j10, j11, j71, j72, j73, hm, hlt, hat, hlt7, k1, hw]
        refine hQ .normal _ ?_; clear hQ Q
        refine ⟨m.objs.length + 4, m.rows.length, (k + 1, c), ?_, ?_, ⟨hlt, hc⟩, by dsimp only; omega⟩
        · exact DropW.ck1 m.objs r0 c c [_] m.rows
        · simp [upd_apply, j1, j2, j3, j4, j7, j10, j11, j71, j72, IV.np, np_sh, npS, npEs, npTs, npL] <;> omega
    · have : d.body.drop k = [] := List.drop_eq_nil_of_le (by omega)
      rw [this, relet] at hc
      refine TS.of [] fun Q hQ => ?_
      simp only [go_sem, Nat.reduceEqDiff, Nat.reduceBEq, Int.reduceToNat, Int.reduceLT, Int.reduceLE, Int.reduceEq, Nat.reduceLeDiff, Nat.reduceLT, Nat.reduceMul, Nat.reduceAdd, String.reduceEq, j1, j2, j3, j4, j7, j10, j11, j71, j72, j73, hm, hlt]
      refine hQ (.exit 4) _ ?_; clear hQ Q
      exact ⟨rfl, by simp [upd_apply, j1, j2, j3, j4, j7, j10, j11], by rw [← hc]⟩
  clear i1 i2 i3 i4 i7 i10 i11 hm4
  rintro e s5 ⟨rfl, ⟨i1, i2, i3, i4, i7, i10, i11⟩, hm5⟩
  -- what is given
  have hG : chkG d = cargs d.give 1 c7 := by unfold chkG; rw [hb5, hc6, hc7]
  have hGle := cargs_le d.give 1 c7
  rw [← hG] at hGle
  refine TS.seq (TS.mono (Q := fun e s => e = .normal ∧ (s.t 1 = .ref (encD d) ∧ s.t 2 = .ptr m.objs.length 0 ∧ s.t 3 = .v .nilIface ∧ s.t 4 = .ptr (m.objs.length + 3) 0 ∧ s.t 7 = ii ((chkN d).1 + (chkG d).1) ∧ s.t 10 = bb (chkN d).2.rd ∧ s.t 11 = ii (chkB d).1) ∧ s.m = ⟨CM1 m.objs r0 (chkG d).2 [], m.rows⟩) ?_ ?_)
  · refine TS.seq (TS.of [] fun Q hQ => ?_)
    simp only [go_sem, Nat.reduceEqDiff, Nat.reduceBEq, Int.reduceToNat, Int.reduceLT, Int.reduceLE, Int.reduceEq, Nat.reduceLeDiff, Nat.reduceLT, Nat.reduceMul, Nat.reduceAdd, String.reduceEq, i1, i2, i3, i4, i7, i10, i11, hm5]
    refine hQ .normal _ ?_; clear hQ Q
    refine TS.block (TS.loop (α := Nat × Int × CS) (fun x => [(1, .ref (encD d)), (2, .ptr m.objs.length 0), (3, .v .nilIface), (4, .ptr (m.objs.length + 3) 0), (7, ii x.2.1), (10, bb (chkN d).2.rd), (11, ii (chkB d).1), (102, slE d.give), (103, ii d.give.length), (104, ii x.1)]) (fun x => ⟨CM1 m.objs r0 x.2.2 [], m.rows⟩) (fun x => x.1 ≤ d.give.length ∧ 0 ≤ x.2.1 ∧ x.2.1 + szs (d.give.drop x.1) ≤ (chkN d).1 + szs d.give ∧ x.2.1 + (cargs (d.give.drop x.1) 1 x.2.2).1 = (chkN d).1 + (chkG d).1 ∧ (cargs (d.give.drop x.1) 1 x.2.2).2 = (chkG d).2) (fun x => d.give.length - x.1) (0, (chkN d).1, c7) (by simp) ⟨by simp [Has, upd_apply, i1, i2, i3, i4, i7, i10, i11], rfl, by simp [hG, hNle.1]⟩ ?_)
    rintro ⟨k, n, c⟩ st hH hm ⟨hk, hn0, hn1, hc1', hc2'⟩
    dsimp only at hH hm hk hn0 hn1 hc1' hc2'
    simp only [Has, List.mem_cons, List.not_mem_nil, or_false, forall_eq_or_imp, forall_eq] at hH; obtain ⟨j1, j2, j3, j4, j7, j10, j11, j39, j40, j41⟩ := hH
    by_cases hlt : k < d.give.length
    · obtain ⟨x, hx⟩ : ∃ x, d.give[k]? = some x := ⟨_, List.getElem?_eq_getElem hlt⟩
      have hdr : d.give.drop k = x :: d.give.drop (k + 1) := by rw [List.drop_eq_getElem_cons hlt]; congr 1; exact Option.some.inj ((List.getElem?_eq_getElem hlt).symm.trans hx)
      have hat := encEs_at hx
      have hlt5 : k * 5 < (encEs d.give).length := by rw [encEs_length]; omega
      have hw := wrap_succ hlt (by omega)
      have hszx := szE_at hx
      rw [hdr, cargs_cons] at hc1' hc2'
      rw [hdr, szs] at hn1
      have hcw : 0 ≤ (cwant x 1 c).1 ∧ (cwant x 1 c).1 ≤ szE x := cexpr_le x c
      have hsub := (cwant_sim x 1 c (by omega)).at_ m.objs r0 [.cells (encE x)] m.rows
      rw [encE_eq] at hsub
      generalize cwant x 1 c = X at hc1' hc2' hsub hcw
      have hw2 : IntKind.i64.wrap (n + X.1) = n + X.1 := wrap_small (by omega) (by omega)
      refine TS.of [] fun Q hQ => ?_
      simp only [go_sem, Nat.reduceEqDiff, Nat.reduceBEq, Int.reduceToNat, Int.reduceLT, Int.reduceLE, Int.reduceEq, Nat.reduceLeDiff, Nat.reduceLT, Nat.reduceMul, Nat.reduceAdd, String.reduceEq, j1, j2, j3, j4, j7, j10, j11, j39, j40, j41, hm, hlt, hat, hlt5]
      refine cal_eq hsub ?_
      simp only [go_sem, Nat.reduceEqDiff, Nat.reduceBEq, Int.reduceToNat, Int.reduceLT, Int.reduceLE, Int.reduceEq, Nat.reduceLeDiff, Nat.reduceLT, Nat.reduceMul, Nat.reduceAdd, String.reduceEq, j1, j2, j3, j4, j7, j10, j11, j39, j40, j41, hw, hw2]
      refine hQ .normal _ ?_; clear hQ Q
      refine ⟨_, _, (k + 1, n + X.1, X.2), DropW.ck1 m.objs r0 c X.2 [_] m.rows, ?_, ⟨hlt, by dsimp only; omega, by dsimp only; omega, by dsimp only at hc1' ⊢; omega, hc2'⟩, by dsimp only; omega⟩
      simp [upd_apply, j1, j2, j3, j4, j10, j11, j39, j40, IV.np, np_sh, npS, npEs, npTs, npL] <;> omega
    · have : d.give.drop k = [] := List.drop_eq_nil_of_le (by omega)
      rw [this] at hc1' hc2'
      simp only [cargs] at hc1' hc2'
      refine TS.of [] fun Q hQ => ?_
      simp only [go_sem, Nat.reduceEqDiff, Nat.reduceBEq, Int.reduceToNat, Int.reduceLT, Int.reduceLE, Int.reduceEq, Nat.reduceLeDiff, Nat.reduceLT, Nat.reduceMul, Nat.reduceAdd, String.reduceEq, j1, j2, j3, j4, j7, j10, j11, j39, j40, j41, hm, hlt]
      refine hQ (.exit 6) _ ?_; clear hQ Q
      exact ⟨rfl, by simp [upd_apply, j1, j2, j3, j4, j7, j10, j11]; omega, by rw [← hc2']⟩
  clear i1 i2 i3 i4 i7 i10 i11 hm5
  rintro e s6 ⟨rfl, ⟨i1, i2, i3, i4, i7, i10, i11⟩, hm6⟩
  generalize hg : (chkG d).2 = g at hm6
  generalize hout : (chkN d).2.rd = out at i10
  have hF : chkF d = if 2048 < chkSteps d then (chkM out g).fail 11 0 else chkM out g := by unfold chkF; rw [hout, hg]
  refine TS.seq (TS.mono (Q := fun e s => e = .normal ∧ (s.t 2 = .ptr m.objs.length 0 ∧ s.t 3 = .v .nilIface ∧ s.t 4 = .ptr (m.objs.length + 3) 0 ∧ s.t 7 = ii ((chkN d).1 + (chkG d).1) ∧ s.t 11 = ii (chkB d).1) ∧ s.m = ⟨CM1 m.objs r0 (chkM out g) [], m.rows⟩) ?_ ?_)
  · clear hF hg hG hc7
    cases hgr : g.rd with
    | true =>
      by_cases hmd : g.md = 2
      · have ht : chkM out g = { g with rd := true, md := 3 } := by simp [chkM, hgr, hmd]
        refine TS.of [] fun Q hQ => ?_
        simp only [go_sem, Nat.reduceEqDiff, Nat.reduceBEq, Int.reduceToNat, Int.reduceLT, Int.reduceLE, Int.reduceEq, Nat.reduceLeDiff, Nat.reduceLT, Nat.reduceMul, Nat.reduceAdd, String.reduceEq, i2, i3, i4, i7, i10, i11, hm6, hgr, hmd]
        refine hQ .normal _ ?_; clear hQ Q
        exact ⟨rfl, by simp [upd_apply, i2, i3, i4, i7, i11], by rw [ht]⟩
      · have ht : chkM out g = { g with rd := true } := by simp [chkM, hgr, hmd]
        refine TS.of [] fun Q hQ => ?_
        simp only [go_sem, Nat.reduceEqDiff, Nat.reduceBEq, Int.reduceToNat, Int.reduceLT, Int.reduceLE, Int.reduceEq, Nat.reduceLeDiff, Nat.reduceLT, Nat.reduceMul, Nat.reduceAdd, String.reduceEq, i2, i3, i4, i7, i10, i11, hm6, hgr, hmd]
        refine hQ .normal _ ?_; clear hQ Q
        exact ⟨rfl, by simp [upd_apply, i2, i3, i4, i7, i11], by rw [ht]⟩
    | false =>
      cases out with
      | true =>
        by_cases hmd : g.md = 2
        · have ht : chkM true g = { g with rd := true, md := 3 } := by simp [chkM, hgr, hmd]
          refine TS.of [] fun Q hQ => ?_
          simp only [go_sem, Nat.reduceEqDiff, Nat.reduceBEq, Int.reduceToNat, Int.reduceLT, Int.reduceLE, Int.reduceEq, Nat.reduceLeDiff, Nat.reduceLT, Nat.reduceMul, Nat.reduceAdd, String.reduceEq, i2, i3, i4, i7, i10, i11, hm6, hgr, hmd]
          refine hQ .normal _ ?_; clear hQ Q
          exact ⟨rfl, by simp [upd_apply, i2, i3, i4, i7, i11], by rw [ht]⟩
        · have ht : chkM true g = { g with rd := true } := by simp [chkM, hgr, hmd]
          refine TS.of [] fun Q hQ => ?_
          simp only [go_sem, Nat.reduceEqDiff, Nat.reduceBEq, Int.reduceToNat, Int.reduceLT, Int.reduceLE, Int.reduceEq, Nat.reduceLeDiff, Nat.reduceLT, Nat.reduceMul, Nat.reduceAdd, String.reduceEq, i2, i3, i4, i7, i10, i11, hm6, hgr, hmd]
          refine hQ .normal _ ?_; clear hQ Q
          exact ⟨rfl, by simp [upd_apply, i2, i3, i4, i7, i11], by rw [ht]⟩
      | false =>
        have ht : chkM false g = { g with rd := false } := by simp [chkM, hgr]
        refine TS.of [] fun Q hQ => ?_
        simp only [go_sem, Nat.reduceEqDiff, Nat.reduceBEq, Int.reduceToNat, Int.reduceLT, Int.reduceLE, Int.reduceEq, Nat.reduceLeDiff, Nat.reduceLT, Nat.reduceMul, Nat.reduceAdd, String.reduceEq, i2, i3, i4, i7, i10, i11, hm6, hgr]
        refine hQ .normal _ ?_; clear hQ Q
        exact ⟨rfl, by simp [upd_apply, i2, i3, i4, i7, i11], by rw [ht]⟩
  clear i1 i2 i3 i4 i7 i10 i11 hm6
  rintro e s7 ⟨rfl, ⟨i2, i3, i4, i7, i11⟩, hm7⟩
  generalize chkM out g = h at hF hm7
  have hw : IntKind.i64.wrap ((chkN d).1 + (chkG d).1 + (chkB d).1) = chkSteps d := wrap_small (by omega) (by omega)
  refine TS.seq (TS.mono (Q := fun e s => e = .normal ∧ (s.t 2 = .ptr m.objs.length 0 ∧ s.t 3 = .v .nilIface ∧ s.t 4 = .ptr (m.objs.length + 3) 0 ∧ s.t 7 = ii (chkSteps d)) ∧ s.m = ⟨CM1 m.objs r0 (chkF d) [], m.rows⟩) ?_ ?_)
  · by_cases hbig : 2048 < chkSteps d
    · rw [if_pos hbig] at hF
      refine TS.of [] fun Q hQ => ?_
      simp only [go_sem, Nat.reduceEqDiff, Nat.reduceBEq, Int.reduceToNat, Int.reduceLT, Int.reduceLE, Int.reduceEq, Nat.reduceLeDiff, Nat.reduceLT, Nat.reduceMul, Nat.reduceAdd, String.reduceEq, i2, i3, i4, i7, i11, hm7, hw, hbig]
      refine cal_eq ((fail_sim h 11 0).at_ m.objs r0 [] m.rows) ?_
      simp only [go_sem, Nat.reduceEqDiff, Nat.reduceBEq, Int.reduceToNat, Int.reduceLT, Int.reduceLE, Int.reduceEq, Nat.reduceLeDiff, Nat.reduceLT, Nat.reduceMul, Nat.reduceAdd, String.reduceEq]
      refine hQ .normal _ ?_; clear hQ Q
      exact ⟨rfl, by simp [upd_apply, i2, i3, i4], by rw [hF]⟩
    · rw [if_neg hbig] at hF
      refine TS.of [] fun Q hQ => ?_
      simp only [go_sem, Nat.reduceEqDiff, Nat.reduceBEq, Int.reduceToNat, Int.reduceLT, Int.reduceLE, Int.reduceEq, Nat.reduceLeDiff, Nat.reduceLT, Nat.reduceMul, Nat.reduceAdd, String.reduceEq, i2, i3, i4, i7, i11, hm7, hw, hbig]
      refine hQ .normal _ ?_; clear hQ Q
      exact ⟨rfl, by simp [upd_apply, i2, i3, i4], by rw [hF]⟩
  clear i2 i3 i4 i7 i11 hm7
  rintro e s8 ⟨rfl, ⟨i2, i3, i4, i7⟩, hm8⟩
  have hck : check d = match (chkF d).ft with
    | some p => (Info0, some p)
    | none => (⟨(chkF d).md, chkSteps d, (chkF d).us.length, (chkF d).tn⟩, none) := rfl
  clear hF
  generalize chkF d = f at hm8 hck
  generalize chkSteps d = stp at i7 hck
  subst hr0
  cases hf : f.ft with
  | some p =>
    rw [hf] at hck
    refine TS.of [] fun Q hQ => ?_
    simp only [go_sem, Nat.reduceEqDiff, Nat.reduceBEq, Int.reduceToNat, Int.reduceLT, Int.reduceLE, Int.reduceEq, Nat.reduceLeDiff, Nat.reduceLT, Nat.reduceMul, Nat.reduceAdd, String.reduceEq, i2, i3, i4, i7, hm8, hf, ftI_some]
    refine drn_of ⟨[], [156], [m.objs.length + 3]⟩ [0, 0, 2, 6, 14, 30, 1, 127] (by kernel_rfl) ?_
    simp only [go_sem, Nat.reduceEqDiff, Nat.reduceBEq, Int.reduceToNat, Int.reduceLT, Int.reduceLE, Int.reduceEq, Nat.reduceLeDiff, Nat.reduceLT, Nat.reduceMul, Nat.reduceAdd, String.reduceEq, i2, i3, i4, i7, hf, ftI_some, show ¬ (m.objs.length + 3 = m.objs.length) by omega]
    refine hQ .ret _ ?_; clear hQ Q; refine post_ret _ _ (.tup [.agg (encI Info0), errI (some p)]) ?_ ?_ (DropW.tail0 _ rfl) ⟨by rw [hck], rfl⟩
    · simp only [go_sem, Nat.reduceEqDiff, Nat.reduceBEq, Int.reduceToNat, Int.reduceLT, Int.reduceLE, Int.reduceEq, Nat.reduceLeDiff, Nat.reduceLT, Nat.reduceMul, Nat.reduceAdd, String.reduceEq, i2, i3, i4, i7, errI_some] <;> rfl
    · simp [IV.np, npL, errI_some]
  | none =>
    rw [hf] at hck
    refine TS.of [] fun Q hQ => ?_
    simp only [go_sem, Nat.reduceEqDiff, Nat.reduceBEq, Int.reduceToNat, Int.reduceLT, Int.reduceLE, Int.reduceEq, Nat.reduceLeDiff, Nat.reduceLT, Nat.reduceMul, Nat.reduceAdd, String.reduceEq, i2, i3, i4, i7, hm8, hf, ftI_none, Mem.map_, add11, encM_size]
    refine hQ .ret _ ?_; clear hQ Q; refine post_ret _ _ (.tup [.agg (encI ⟨f.md, stp, f.us.length, f.tn⟩), errI none]) ?_ ?_ (DropW.tail0 _ rfl) ⟨by rw [hck], rfl⟩
    · simp only [go_sem, Nat.reduceEqDiff, Nat.reduceBEq, Int.reduceToNat, Int.reduceLT, Int.reduceLE, Int.reduceEq, Nat.reduceLeDiff, Nat.reduceLT, Nat.reduceMul, Nat.reduceAdd, String.reduceEq, i2, i3, i4, i7, errI_none] <;> rfl
    · simp [IV.np, npL, errI_none]
end Go.Proofs.Ytphjldhdnmoolaa.A
/- The walks of some functions over the abstract machine. -/
namespace Go.Proofs.Ytphjldhdnmoolaa.A
open Go
def faultP (e : Option (Int × Int)) : Int × Int := e.getD (0, 0)
set_option maxRecDepth 100000 in
set_option maxHeartbeats 4000000 in
theorem fault_sim (m : Mem) (e : Option (Int × Int)) : Sim 40 [errI e] m (fun r m' => r = .tup [ii (faultP e).1, ii (faultP e).2] ∧ m' = m) := by
  refine Sim.ofS 27 [.tmp 2, .tmp 3] Try.func40 rfl rfl rfl (by simp) fun wr => ?_
  simp only [go_sem, Nat.reduceEqDiff, Nat.reduceBEq, Int.reduceToNat, Int.reduceLT, Int.reduceLE, Int.reduceEq, Nat.reduceLeDiff, Nat.reduceLT, Nat.reduceMul, Nat.reduceAdd, String.reduceEq]
  cases e with
  | none =>
    refine TS.of [] fun Q hQ => ?_
    simp only [go_sem, Nat.reduceEqDiff, Nat.reduceBEq, Int.reduceToNat, Int.reduceLT, Int.reduceLE, Int.reduceEq, Nat.reduceLeDiff, Nat.reduceLT, Nat.reduceMul, Nat.reduceAdd, String.reduceEq, errI_none]
    refine hQ .ret _ ?_; exact post_ret _ _ _ rfl rfl (DropW.refl _) ⟨rfl, rfl⟩
  | some p =>
    refine TS.of [] fun Q hQ => ?_
    simp only [go_sem, Nat.reduceEqDiff, Nat.reduceBEq, Int.reduceToNat, Int.reduceLT, Int.reduceLE, Int.reduceEq, Nat.reduceLeDiff, Nat.reduceLT, Nat.reduceMul, Nat.reduceAdd, String.reduceEq, errI_some]
    refine drn_of ⟨[22, 26], [], []⟩ [0, 1, 3, 7, 0, 16, 48, 112, 15, 511] (by kernel_rfl) ?_
    simp only [go_sem, Nat.reduceEqDiff, Nat.reduceBEq, Int.reduceToNat, Int.reduceLT, Int.reduceLE, Int.reduceEq, Nat.reduceLeDiff, Nat.reduceLT, Nat.reduceMul, Nat.reduceAdd, String.reduceEq]
    refine hQ .ret _ ?_; exact post_ret _ _ _ rfl rfl (DropW.refl _) ⟨rfl, rfl⟩
set_option maxRecDepth 100000 in
set_option maxHeartbeats 4000000 in
theorem calls_sim (m : Mem) (d : Def) (args : List Int) : Sim 39 [.agg (encD d), .sl .sh args.length (args.map (IV.v <| .int .i64 ·))] m (fun r m' => r = (if args.length = d.params.length then .v .nilIface else .iface 76 (ii 2)) ∧ m' = m) := by
  refine Sim.ofS 12 [.tmp 4] Try.func39 rfl rfl rfl (by simp) fun wr => ?_
  simp only [go_sem, Nat.reduceEqDiff, Nat.reduceBEq, Int.reduceToNat, Int.reduceLT, Int.reduceLE, Int.reduceEq, Nat.reduceLeDiff, Nat.reduceLT, Nat.reduceMul, Nat.reduceAdd, String.reduceEq]
  by_cases h : args.length = d.params.length
  · refine TS.of [2] fun Q hQ => ?_
    simp only [go_sem, Nat.reduceEqDiff, Nat.reduceBEq, Int.reduceToNat, Int.reduceLT, Int.reduceLE, Int.reduceEq, Nat.reduceLeDiff, Nat.reduceLT, Nat.reduceMul, Nat.reduceAdd, String.reduceEq, encD, h]
    refine hQ .ret _ ?_; exact post_ret _ _ _ rfl rfl (DropW.refl _) ⟨by rw [if_pos h]; rfl, rfl⟩
  · have h' : ¬ ((args.length : Int) = (d.params.length : Int)) := by omega
    refine TS.of [2] fun Q hQ => ?_
    simp only [go_sem, Nat.reduceEqDiff, Nat.reduceBEq, Int.reduceToNat, Int.reduceLT, Int.reduceLE, Int.reduceEq, Nat.reduceLeDiff, Nat.reduceLT, Nat.reduceMul, Nat.reduceAdd, String.reduceEq, encD, h']
    refine hQ .ret _ ?_; exact post_ret _ _ _ rfl rfl (DropW.refl _) ⟨by rw [if_neg h]; rfl, rfl⟩
theorem TS_cases {α : Type} {p : Prop} (q : Option α) (h0 : q = none → p) (h1 : ∀ x, q = some x → p) : p := by
  cases q with
  | none => exact h0 rfl
  | some x => exact h1 x rfl
def checkedP (s : Bytes) : Info × Int × Int × Bool := if (parse s).2.1 = 0 then ((check (parse s).1).1, (faultP (check (parse s).1).2).1, (faultP (check (parse s).1).2).2, true) else (Info0, 0, 0, false)
set_option maxRecDepth 100000 in
set_option maxHeartbeats 4000000 in
theorem checked_sim (m : Mem) (s : Bytes) (hs : s.size < 900000) (hd : (parse s).2.1 = 0 → DefOK (parse s).1) : Sim 23 [ss s] m (fun r m' => r = .tup [.agg (encI (checkedP s).1), ii (checkedP s).2.1, ii (checkedP s).2.2.1, bb (checkedP s).2.2.2] ∧ m' = m) := by
  refine Sim.ofS 35 [.cell 2 31, .tmp 3, .tmp 4, .tmp 5] Try.func23 rfl rfl rfl (by simp) fun wr => ?_
  simp only [go_sem, Nat.reduceEqDiff, Nat.reduceBEq, Int.reduceToNat, Int.reduceLT, Int.reduceLE, Int.reduceEq, Nat.reduceLeDiff, Nat.reduceLT, Nat.reduceMul, Nat.reduceAdd, String.reduceEq]
  refine TS.of [] fun Q hQ => ?_
  simp only [go_sem, Nat.reduceEqDiff, Nat.reduceBEq, Int.reduceToNat, Int.reduceLT, Int.reduceLE, Int.reduceEq, Nat.reduceLeDiff, Nat.reduceLT, Nat.reduceMul, Nat.reduceAdd, String.reduceEq]
  refine cal_eq (parse_sim _ s hs) ?_
  by_cases hc : (parse s).2.1 = 0
  · have hgo : checkedP s = ((check (parse s).1).1, (faultP (check (parse s).1).2).1, (faultP (check (parse s).1).2).2, true) := by rw [checkedP, if_pos hc]
    have hsub := fun m => check_sim m (parse s).1 (hd hc)
    simp only [go_sem, Nat.reduceEqDiff, Nat.reduceBEq, Int.reduceToNat, Int.reduceLT, Int.reduceLE, Int.reduceEq, Nat.reduceLeDiff, Nat.reduceLT, Nat.reduceMul, Nat.reduceAdd, String.reduceEq, hc, encD]
    refine cal_eq (hsub _) ?_
    generalize check (parse s).1 = X at hgo
    obtain ⟨i, q⟩ := X
    refine TS_cases q (fun hq => ?_) (fun p hq => ?_)
    all_goals subst hq
    all_goals (simp only [go_sem, Nat.reduceEqDiff, Nat.reduceBEq, Int.reduceToNat, Int.reduceLT, Int.reduceLE, Int.reduceEq, Nat.reduceLeDiff, Nat.reduceLT, Nat.reduceMul, Nat.reduceAdd, String.reduceEq, errI_none, errI_some])
    all_goals first | (refine cal_eq (fault_sim _ none) ?_) | (refine cal_eq (fault_sim _ (some _)) ?_)
    all_goals simp only [go_sem, Nat.reduceEqDiff, Nat.reduceBEq, Int.reduceToNat, Int.reduceLT, Int.reduceLE, Int.reduceEq, Nat.reduceLeDiff, Nat.reduceLT, Nat.reduceMul, Nat.reduceAdd, String.reduceEq]
    all_goals (refine hQ .ret _ ?_; clear hQ Q; refine post_ret _ _ (.tup [.agg (encI i), ii _, ii _, bb true]) ?_ ?_ (DropW.tail0 _ rfl) ⟨by rw [hgo], rfl⟩)
    all_goals first | (simp only [go_sem, Nat.reduceEqDiff, Nat.reduceBEq, Int.reduceToNat, Int.reduceLT, Int.reduceLE, Int.reduceEq, Nat.reduceLeDiff, Nat.reduceLT, Nat.reduceMul, Nat.reduceAdd, String.reduceEq]; done) | (simp [IV.np, npL]; done)
  · have hgo : checkedP s = (Info0, 0, 0, false) := by rw [checkedP, if_neg hc]
    simp only [go_sem, Nat.reduceEqDiff, Nat.reduceBEq, Int.reduceToNat, Int.reduceLT, Int.reduceLE, Int.reduceEq, Nat.reduceLeDiff, Nat.reduceLT, Nat.reduceMul, Nat.reduceAdd, String.reduceEq, hc, encD]
    refine hQ .ret _ ?_; clear hQ Q; refine post_ret _ _ (.tup [.agg (encI Info0), ii 0, ii 0, bb false]) ?_ ?_ (DropW.tail0 _ rfl) ⟨by rw [hgo], rfl⟩
    · simp only [go_sem, Nat.reduceEqDiff, Nat.reduceBEq, Int.reduceToNat, Int.reduceLT, Int.reduceLE, Int.reduceEq, Nat.reduceLeDiff, Nat.reduceLT, Nat.reduceMul, Nat.reduceAdd, String.reduceEq]
    · simp [IV.np, npL]
end Go.Proofs.Ytphjldhdnmoolaa.A
/- The walks of some functions over the abstract machine. -/
namespace Go.Proofs.Ytphjldhdnmoolaa.A
open Go
/-! what the parser makes is small -/
section
variable {l : List Tok}
/-- Where it went well: so many tokens stand between. -/
def took (p q : Int) (n : Nat) : Prop := 0 ≤ q → 0 ≤ p ∧ (n : Int) ≤ q - p
theorem eatP_took (p : Int) (t : Bytes) : 0 ≤ eatP l p t → 0 ≤ p ∧ eatP l p t = p + 1 := by
  intro h
  unfold eatP at h ⊢
  split at h
  · omega
  · rename_i hp
    rw [if_neg hp]
    split at h
    · rename_i hi; rw [if_pos hi]; exact ⟨by omega, rfl⟩
    · unfold bad at h; omega
theorem wordP_took (p : Int) : 0 ≤ (wordP l p).2 → 0 ≤ p ∧ (wordP l p).2 = p + 1 := by
  intro h
  unfold wordP at h ⊢
  split at h
  · dsimp only at h; omega
  · rename_i hp
    rw [if_neg hp]
    split at h
    · unfold bad at h; dsimp only at h; omega
    · rename_i hi; rw [if_neg hi]; exact ⟨by omega, rfl⟩
theorem numP_took (p : Int) : 0 ≤ (numP l p).2 → 0 ≤ p ∧ (numP l p).2 = p + 1 := by
  intro h
  unfold numP at h ⊢
  split at h
  · dsimp only at h; omega
  · rename_i hp
    rw [if_neg hp]
    split at h
    · unfold bad at h; dsimp only at h; omega
    · rename_i hi; rw [if_neg hi]; exact ⟨by omega, rfl⟩
theorem isP_nn {p : Int} {t : Bytes} (h : isP l p t = true) : 0 ≤ p := by
  unfold isP at h; simp only [Bool.and_eq_true, decide_eq_true_eq] at h; exact h.1
theorem expr_took : ∀ f, (∀ p least depth, took p (exprF l f p least depth).2 (szE (exprF l f p least depth).1)) ∧ (∀ left p most least depth, 0 ≤ (loopF l f left p most least depth).2 → 0 ≤ p ∧ (szE (loopF l f left p most least depth).1 : Int) ≤ szE left + ((loopF l f left p most least depth).2 - p)) ∧ (∀ p depth, took p (smallF l f p depth).2 (szE (smallF l f p depth).1)) ∧ (∀ p depth a b, took p (aroundF l f p depth a b).2 (szE (aroundF l f p depth a b).1 + 1)) := by
  intro f
  induction f with
  | zero => exact ⟨fun _ _ _ h => absurd h (by simp [exprF]), fun _ _ _ _ _ h => absurd h (by simp [loopF]), fun _ _ h => absurd h (by simp [smallF]), fun _ _ _ _ h => absurd h (by simp [aroundF])⟩
  | succ f ih =>
    obtain ⟨ihE, ihL, ihS, ihA⟩ := ih
    refine ⟨fun p least depth h => ?_, fun left p most least depth h => ?_, fun p depth h => ?_, fun p depth a b h => ?_⟩
    · rw [exprF] at h ⊢
      have h1 := ihL _ _ _ _ _ h
      have h2 := ihS p depth h1.1
      omega
    · rw [loopF] at h ⊢
      split at h
      · rename_i hc
        rw [if_pos hc]
        split at h
        · rename_i hv; rw [if_pos hv]; exact ⟨hc.1, by dsimp only; omega⟩
        · rename_i hv
          rw [if_neg hv]
          have h1 := ihL _ _ _ _ _ h
          have h2 := ihE _ _ _ h1.1
          have h3 : szE (.mk 6 0 (tk l p).s [left, (exprF l f (p + 1) (level (tk l p).s + 1) depth).1] (tk l p).p) = szE left + szE (exprF l f (p + 1) (level (tk l p).s + 1) depth).1 + 1 := by simp [szE, szs]
          rw [h3] at h1
          omega
      · rename_i hc; rw [if_neg hc]; dsimp only at h ⊢; omega
    · rw [smallF] at h ⊢
      split at h
      · dsimp only at h; omega
      · rename_i hp
        rw [if_neg hp]
        split at h
        · rename_i hc
          rw [if_pos hc]
          split at h
          · unfold bad at h; dsimp only at h; omega
          · rename_i hd
            rw [if_neg hd]
            have h1 := ihS _ _ h
            simp only [szE, szs]
            omega
        · rename_i hc
          rw [if_neg hc]
          split at h
          · rename_i hb
            rw [if_pos hb]
            have h1 := ihA _ _ _ _ h
            simp only [szE, szs]
            omega
          · rename_i hb
            rw [if_neg hb]
            split at h
            · rename_i hb2
              rw [if_pos hb2]
              have h1 := ihA _ _ _ _ h
              omega
            · rename_i hb2
              rw [if_neg hb2]
              split at h
              · rename_i hb3
                rw [if_pos hb3]
                have h1 := numP_took p h
                simp only [szE, szs]
                dsimp only at h ⊢
                omega
              · rename_i hb3
                rw [if_neg hb3]
                split at h
                · rename_i hb4
                  rw [if_pos hb4]
                  simp only [szE, szs]
                  dsimp only at h ⊢
                  omega
                · rename_i hb4
                  rw [if_neg hb4]
                  have h1 := wordP_took p h
                  simp only [szE, szs]
                  dsimp only at h ⊢
                  omega
    · rw [aroundF] at h ⊢
      split at h
      · rename_i hc
        simp only [Bool.and_eq_true] at hc
        have := isP_nn hc.2
        unfold bad at h; dsimp only at h; omega
      · rename_i hc
        rw [if_neg hc]
        have h1 := eatP_took _ _ h
        have h2 := ihE _ _ _ h1.1
        have h3 := eatP_took _ _ h2.1
        dsimp only at *
        omega
theorem expr_took1 {p least depth : Int} (h : 0 ≤ (expr l p least depth).2) : 0 ≤ p ∧ (szE (expr l p least depth).1 : Int) ≤ (expr l p least depth).2 - p := (expr_took _).1 p least depth h
theorem around_took1 {p depth : Int} {a b : Bytes} (h : 0 ≤ (around l p depth a b).2) : 0 ≤ p ∧ ((szE (around l p depth a b).1 : Int) + 1) ≤ (around l p depth a b).2 - p := by
  have := (expr_took _).2.2.2 p depth a b h
  unfold around; omega
/-- The numbers of a text's loops aren't below 0. -/
def numsOK (l : List Tok) : Prop := ∀ p, (tk l p).k = 2 → 0 ≤ numV (tk l p).s
theorem numP_nn (hn : numsOK l) (p : Int) (h : 0 ≤ (numP l p).2) : 0 ≤ (numP l p).1 := by
  unfold numP at h ⊢
  split at h
  · dsimp only at h; omega
  · rename_i hp
    rw [if_neg hp]
    split at h
    · unfold bad at h; dsimp only at h; omega
    · rename_i hi
      rw [if_neg hi]
      exact hn p (by omega)
theorem cell_took (hn : numsOK l) (p depth : Int) (h : 0 ≤ (cellS l p depth).2) : 0 ≤ p ∧ (szT (cellS l p depth).1 : Int) ≤ (cellS l p depth).2 - p ∧ fineT (cellS l p depth).1 := by
  unfold cellS at h ⊢
  dsimp only at h ⊢
  split at h
  · rename_i hs
    rw [if_pos hs]
    dsimp only at h ⊢
    have h1 := eatP_took _ _ h
    have h2 : 0 ≤ (around l ((around l p depth qLB qRB).2 + 1) depth qLB qRB).2 ∧ swapEnd l (around l p depth qLB qRB).2 (around l ((around l p depth qLB qRB).2 + 1) depth qLB qRB).2 = (around l ((around l p depth qLB qRB).2 + 1) depth qLB qRB).2 := by
      have h3 := h1.1
      have hp := isP_nn hs
      unfold swapEnd at h3 ⊢
      split at h3
      · unfold bad at h3; omega
      · rename_i hc; rw [if_neg hc]; exact ⟨h3, rfl⟩
    have h4 := around_took1 h2.1
    have h5 := around_took1 (l := l) (p := p) (depth := depth) (a := qLB) (b := qRB) (isP_nn hs)
    rw [h2.2] at h1
    refine ⟨h5.1, ?_, ?_⟩
    · rw [h2.2, h1.2]
      simp only [szT, szs, szt]
      omega
    · simp [fineT, fineTs]
  · rename_i hs
    rw [if_neg hs]
    split at h
    · rename_i hs2
      rw [if_pos hs2]
      dsimp only at h ⊢
      have h1 := eatP_took _ _ h
      have h4 := expr_took1 h1.1
      have h5 := around_took1 (l := l) (p := p) (depth := depth) (a := qLB) (b := qRB) (by
        simp only [Bool.or_eq_true] at hs2
        rcases hs2 with h | h | h <;> exact isP_nn h)
      refine ⟨h5.1, ?_, ?_⟩
      · rw [h1.2]
        simp only [szT, szs, szt]
        omega
      · simp only [fineT, fineTs]
        refine ⟨by omega, fun hk => ?_, trivial, trivial⟩
        simp
    · dsimp only at h
      split at h
      · omega
      · unfold bad at h; omega
theorem szt_app (a : List Stmt) (x : Stmt) : szt (a ++ [x]) = szt a + szT x := by
  induction a with
  | nil => simp [szt]
  | cons y a ih => simp only [List.cons_append, szt, ih]; omega
theorem fine_app (a : List Stmt) (x : Stmt) : fineTs (a ++ [x]) ↔ fineTs a ∧ fineT x := by
  induction a with
  | nil => simp [fineTs]
  | cons y a ih => simp only [List.cons_append, fineTs, ih, and_assoc]
theorem szs_app (a : List Expr) (x : Expr) : szs (a ++ [x]) = szs a + szE x := by
  induction a with
  | nil => simp [szs]
  | cons y a ih => simp only [List.cons_append, szs, ih]; omega
theorem loopB_nn {f : Nat} {acc : List Stmt} {p depth : Int} (h : 0 ≤ (loopB l f acc p depth).2) : 0 ≤ p := by
  cases f with
  | zero => exact absurd h (by simp [loopB])
  | succ f =>
    rw [loopB] at h
    split at h
    · rename_i hc; simp only [Bool.and_eq_true, decide_eq_true_eq] at hc; exact hc.1
    · exact (eatP_took _ _ h).1
theorem stmt_took (hn : numsOK l) : ∀ f, (∀ p depth, 0 ≤ p → 0 ≤ (stmtF l f p depth).2 → (szT (stmtF l f p depth).1 : Int) ≤ (stmtF l f p depth).2 - p ∧ fineT (stmtF l f p depth).1) ∧ (∀ p depth, 0 ≤ (blockF l f p depth).2 → 0 ≤ p ∧ (szt (blockF l f p depth).1 : Int) ≤ (blockF l f p depth).2 - p ∧ fineTs (blockF l f p depth).1) ∧ (∀ acc p depth, fineTs acc → 0 ≤ (loopB l f acc p depth).2 → 0 ≤ p ∧ (szt (loopB l f acc p depth).1 : Int) ≤ szt acc + ((loopB l f acc p depth).2 - p) ∧ fineTs (loopB l f acc p depth).1) := by
  intro f
  induction f with
  | zero => exact ⟨fun _ _ _ h => absurd h (by simp [stmtF]), fun _ _ h => absurd h (by simp [blockF]), fun _ _ _ _ h => absurd h (by simp [loopB])⟩
  | succ f ih =>
    obtain ⟨ihS, ihB, ihL⟩ := ih
    refine ⟨fun p depth hp0 h => ?_, fun p depth h => ?_, fun acc p depth hf h => ?_⟩
    · rw [stmtF] at h ⊢
      split at h
      · rename_i hc; rw [if_pos hc]; have := cell_took hn p depth h; exact ⟨this.2.1, this.2.2⟩
      · rename_i hc
        rw [if_neg hc]
        split at h
        · rename_i hs
          rw [if_pos hs]
          have h1 := eatP_took _ _ h
          have h2 := expr_took1 h1.1
          have h3 := eatP_took _ _ h2.1
          have h4 := wordP_took _ h3.1
          dsimp only at h ⊢
          refine ⟨?_, by simp [fineT, fineTs]⟩
          simp only [szT, szs, szt]
          omega
        · rename_i hs
          rw [if_neg hs]
          split at h
          · rename_i hs2
            rw [if_pos hs2]
            split at h
            · rename_i he
              rw [if_pos he]
              have h1 := ihB _ _ h
              have h2 := ihB _ _ (isP_nn he)
              have h3 := expr_took1 h2.1
              dsimp only at h ⊢
              refine ⟨?_, by simp only [fineT]; exact ⟨by omega, by simp, h2.2.2, h1.2.2⟩⟩
              simp only [szT, szs, szt]
              omega
            · rename_i he
              rw [if_neg he]
              have h2 := ihB _ _ h
              have h3 := expr_took1 h2.1
              dsimp only at h ⊢
              refine ⟨?_, by simp only [fineT, fineTs]; exact ⟨by omega, by simp, h2.2.2, trivial⟩⟩
              simp only [szT, szs, szt]
              omega
          · rename_i hs2
            rw [if_neg hs2]
            split at h
            · rename_i hs3
              rw [if_pos hs3]
              have h2 := ihB _ _ h
              have h3 := numP_took _ h2.1
              have h4 := eatP_took _ _ h3.1
              have h5 := eatP_took _ _ h4.1
              have h6 := eatP_took _ _ h5.1
              have h7 := wordP_took _ h6.1
              have h8 := numP_nn hn _ h2.1
              dsimp only at h ⊢
              refine ⟨?_, by simp only [fineT, fineTs]; exact ⟨h8, by simp, h2.2.2, trivial⟩⟩
              simp only [szT, szs, szt]
              omega
            · unfold bad at h; dsimp only at h; exfalso
              rename_i hx
              omega
    · rw [blockF] at h ⊢
      split at h
      · rename_i hc
        simp only [Bool.and_eq_true] at hc
        have := isP_nn hc.2
        unfold bad at h; dsimp only at h; omega
      · rename_i hc
        rw [if_neg hc]
        have h1 := ihL _ _ _ (by simp [fineTs]) h
        have h2 := eatP_took _ _ h1.1
        simp only [szt] at h1
        refine ⟨h2.1, by omega, h1.2.2⟩
    · rw [loopB] at h ⊢
      split at h
      · rename_i hc
        rw [if_pos hc]
        simp only [Bool.and_eq_true, decide_eq_true_eq] at hc
        have hnn : 0 ≤ (stmtF l f p (depth + 1)).2 := loopB_nn h
        have h1 := ihS p (depth + 1) hc.1 hnn
        have h2 := ihL _ _ _ ((fine_app _ _).2 ⟨hf, h1.2⟩) h
        rw [szt_app] at h2
        refine ⟨hc.1, by omega, h2.2.2⟩
      · rename_i hc
        rw [if_neg hc]
        have h1 := eatP_took _ _ h
        dsimp only at h ⊢
        refine ⟨h1.1, by omega, hf⟩
theorem stmt_took1 (hn : numsOK l) {p depth : Int} (h0 : 0 ≤ p) (h : 0 ≤ (stmt l p depth).2) : (szT (stmt l p depth).1 : Int) ≤ (stmt l p depth).2 - p ∧ fineT (stmt l p depth).1 := (stmt_took hn _).1 p depth h0 h
theorem loopN_took : ∀ f acc p, 0 ≤ (loopN l f acc p).2 → 0 ≤ p ∧ (szs (loopN l f acc p).1 : Int) ≤ szs acc + ((loopN l f acc p).2 - p)
  | 0, _, _, h => absurd h (by simp [loopN])
  | f + 1, acc, p, h => by
    rw [loopN] at h ⊢
    split at h
    · rename_i hc
      rw [if_pos hc]
      have h1 := loopN_took f _ _ h
      have h2 := eatP_took _ _ h1.1
      have h3 := expr_took1 h2.1
      rw [szs_app] at h1
      refine ⟨isP_nn hc, by omega⟩
    · rename_i hc; rw [if_neg hc]; dsimp only at h ⊢; omega
theorem loopD_nn {f : Nat} {acc : List Stmt} {p : Int} (h : 0 ≤ (loopD l f acc p).2) : 0 ≤ p := by
  cases f with
  | zero => exact absurd h (by simp [loopD])
  | succ f =>
    rw [loopD] at h
    split at h
    · rename_i hc; simp only [Bool.and_eq_true, decide_eq_true_eq] at hc; exact hc.1
    · exact h
theorem loopD_took (hn : numsOK l) : ∀ f acc p, fineTs acc → 0 ≤ (loopD l f acc p).2 → (szt (loopD l f acc p).1 : Int) ≤ szt acc + ((loopD l f acc p).2 - p) ∧ fineTs (loopD l f acc p).1
  | 0, _, _, _, h => absurd h (by simp [loopD])
  | f + 1, acc, p, hf, h => by
    rw [loopD] at h ⊢
    split at h
    · rename_i hc
      rw [if_pos hc]
      simp only [Bool.and_eq_true, decide_eq_true_eq] at hc
      have h1 := stmt_took1 hn hc.1 (loopD_nn h)
      have h2 := loopD_took hn f _ _ ((fine_app _ _).2 ⟨hf, h1.2⟩) h
      rw [szt_app] at h2
      exact ⟨by omega, h2.2⟩
    · rename_i hc; rw [if_neg hc]; dsimp only at h ⊢; exact ⟨by omega, hf⟩
theorem loopP_took : ∀ f acc p b, 0 ≤ (loopP l f acc p b).2 → 0 ≤ p ∧ ((loopP l f acc p b).1.length : Int) ≤ acc.length + ((loopP l f acc p b).2 - p)
  | 0, _, _, _, h => absurd h (by simp [loopP])
  | f + 1, acc, p, b, h => by
    rw [loopP] at h ⊢
    split at h
    · rename_i hc
      rw [if_pos hc]
      split at h
      · rename_i hc2
        rw [if_pos hc2]
        have h1 := loopP_took f _ _ _ h
        have h2 := wordP_took p (isP_nn hc2)
        simp only [List.length_append, List.length_cons, List.length_nil] at h1
        refine ⟨h2.1, by omega⟩
      · rename_i hc2
        rw [if_neg hc2]
        have h2 := wordP_took p h
        simp only [List.length_append, List.length_cons, List.length_nil]
        dsimp only at h ⊢
        refine ⟨h2.1, by omega⟩
    · rename_i hc; rw [if_neg hc]; dsimp only at h ⊢; omega
theorem defP_took (hn : numsOK l) (h : 0 ≤ (defP l).2) : ((szs (defP l).1.needs : Int) + szt (defP l).1.body + szs (defP l).1.give + (defP l).1.params.length ≤ (defP l).2) ∧ fineTs (defP l).1.body := by
  unfold defP at h ⊢
  dsimp only at h ⊢
  split at h
  · rename_i hc
    rw [if_pos hc]
    dsimp only at h ⊢
    have h1 := eatP_took _ _ h
    have h2 := eatP_took _ _ h1.1
    have h3 := expr_took1 h2.1
    have h4 := loopD_took hn _ _ _ (by simp [fineTs]) (isP_nn hc)
    have h5 := loopD_nn (isP_nn hc)
    have h6 := loopN_took _ _ _ h5
    have h7 := eatP_took _ _ h6.1
    have h8 := eatP_took _ _ h7.1
    have h9 := loopP_took _ _ _ _ h8.1
    simp only [szt, szs, List.length_nil] at h4 h6 h9 ⊢
    exact ⟨by omega, h4.2⟩
  · rename_i hc
    rw [if_neg hc]
    dsimp only at h ⊢
    have h1 := eatP_took _ _ h
    have h4 := loopD_took hn _ _ _ (by simp [fineTs]) h1.1
    have h5 := loopD_nn h1.1
    have h6 := loopN_took _ _ _ h5
    have h7 := eatP_took _ _ h6.1
    have h8 := eatP_took _ _ h7.1
    have h9 := loopP_took _ _ _ _ h8.1
    simp only [szt, szs, List.length_nil] at h4 h6 h9 ⊢
    exact ⟨by omega, h4.2⟩
end
end Go.Proofs.Ytphjldhdnmoolaa.A
/- The walks of some functions over the abstract machine. -/
namespace Go.Proofs.Ytphjldhdnmoolaa.A
open Go
/-! numbers of texts -/
def numQ (t : Tok) : Prop := t.k = 2 → allB t.s digits = true ∧ numOK t.s = true
theorem kindT_num {t : Bytes} {b : Bool} (h : kindT t b = 2) : allB t digits = true ∧ numOK t = true := by
  unfold kindT at h
  split at h
  · cases h
  · split at h
    · rename_i hc; simp only [Bool.and_eq_true] at hc; exact hc.2
    · split at h <;> cases h
theorem toksF_num (s : Bytes) : ∀ (f p : Nat) (acc : List Tok), (∀ t ∈ acc, numQ t) → ∀ t ∈ (toksF s f p acc).1, numQ t
  | 0, p, acc, h, t, ht => by simp [toksF] at ht
  | f + 1, p, acc, h, t, ht => by
    unfold toksF at ht
    split at ht
    · rcases List.mem_append.1 ht with ht | ht
      · exact h t ht
      · simp at ht; subst ht; intro hk; cases hk
    · split at ht
      · exact toksF_num s f _ acc h t ht
      · split at ht
        · exact toksF_num s f _ acc h t ht
        · split at ht
          · simp at ht
          · refine toksF_num s f _ _ ?_ t ht
            intro t ht
            rcases List.mem_append.1 ht with ht | ht
            · exact h t ht
            · simp at ht; subst ht; exact fun hk => kindT_num hk
def dv (n : Nat) (b : UInt8) : Nat := 10 * n + (b.toNat - 48)
def isD (b : UInt8) : Bool := decide (48 ≤ b.toNat) && decide (b.toNat ≤ 57)
theorem hasB_digit {b : UInt8} (h : hasB digits b.toNat = true) : 48 ≤ b.toNat ∧ b.toNat ≤ 57 := by
  unfold hasB at h
  have hL : L digits = [48, 49, 50, 51, 52, 53, 54, 55, 56, 57] := rfl
  rw [hL] at h
  simp at h
  omega
theorem dv_lt : ∀ (l : List UInt8) (n : Nat), (∀ b ∈ l, 48 ≤ b.toNat ∧ b.toNat ≤ 57) → l.foldl dv n < (n + 1) * 10 ^ l.length
  | [], n, _ => by simp
  | b :: l, n, h => by
    have h1 := dv_lt l (dv n b) (fun x hx => h x (List.mem_cons_of_mem _ hx))
    have h2 := h b (List.mem_cons_self ..)
    simp only [List.foldl_cons, List.length_cons]
    refine Nat.lt_of_lt_of_le h1 ?_
    rw [Nat.pow_succ, Nat.mul_comm (10 ^ l.length) 10, ← Nat.mul_assoc]
    apply Nat.mul_le_mul_right
    unfold dv; omega
theorem dv_ge : ∀ (l : List UInt8) (n : Nat), n * 10 ^ l.length ≤ l.foldl dv n
  | [], n => by simp
  | b :: l, n => by
    have h1 := dv_ge l (dv n b)
    simp only [List.foldl_cons, List.length_cons]
    refine Nat.le_trans ?_ h1
    rw [Nat.pow_succ, Nat.mul_comm (10 ^ l.length) 10, ← Nat.mul_assoc]
    apply Nat.mul_le_mul_right
    unfold dv; omega
/-- As long as the whole is small, nothing wraps. -/
theorem numV_eq : ∀ (l : List UInt8) (n : Nat), (∀ b ∈ l, 48 ≤ b.toNat ∧ b.toNat ≤ 57) → l.foldl dv n < 9223372036854775808 → l.foldl digV (n : Int) = ((l.foldl dv n : Nat) : Int)
  | [], n, _, _ => rfl
  | b :: l, n, h, hs => by
    have h2 := h b (List.mem_cons_self ..)
    simp only [List.foldl_cons] at hs ⊢
    have h3 := dv_ge l (dv n b)
    have h4 : dv n b < 9223372036854775808 := by
      have : 1 ≤ 10 ^ l.length := Nat.one_le_pow _ _ (by decide)
      have := Nat.mul_le_mul_left (dv n b) this
      omega
    have e : digV n b = ((dv n b : Nat) : Int) := by
      unfold digV dv at *
      simp only [IntKind.wrap, IntKind.bits, IntKind.signed]
      simp
      omega
    rw [e]
    exact numV_eq l (dv n b) (fun x hx => h x (List.mem_cons_of_mem _ hx)) hs
theorem dv_lex : ∀ (a b : List UInt8) (n : Nat), a.length = b.length → (∀ x ∈ a, 48 ≤ x.toNat ∧ x.toNat ≤ 57) → (∀ x ∈ b, 48 ≤ x.toNat ∧ x.toNat ≤ 57) → Op.bytesLess a b = true → a.foldl dv n < b.foldl dv n
  | [], [], n, _, _, _, h => by cases h
  | x :: a, y :: b, n, hl, ha, hb, h => by
    have hx := ha x (List.mem_cons_self ..)
    have hy := hb y (List.mem_cons_self ..)
    have hl' : a.length = b.length := by simpa using hl
    simp only [Op.bytesLess, Bool.or_eq_true, decide_eq_true_eq, Bool.and_eq_true, beq_iff_eq] at h
    simp only [List.foldl_cons]
    rcases h with h | ⟨h, h'⟩
    · have h0 : x.toNat < y.toNat := UInt8.lt_iff_toNat_lt.1 h
      have h1 := dv_lt a (dv n x) (fun z hz => ha z (List.mem_cons_of_mem _ hz))
      have h2 := dv_ge b (dv n y)
      have h3 : dv n x + 1 ≤ dv n y := by unfold dv; omega
      have h4 := Nat.mul_le_mul_right (10 ^ a.length) h3
      rw [hl'] at h1 h4
      omega
    · subst h
      exact dv_lex a b _ hl' (fun z hz => ha z (List.mem_cons_of_mem _ hz)) (fun z hz => hb z (List.mem_cons_of_mem _ hz)) h'
theorem numV_nat {s : Bytes} (h1 : allB s digits = true) (h2 : numOK s = true) : numV s = (((L s).foldl dv 0 : Nat) : Int) ∧ (L s).foldl dv 0 < 9223372036854775808 := by
  have hd : ∀ b ∈ L s, 48 ≤ b.toNat ∧ b.toNat ≤ 57 := by
    intro b hb
    unfold allB at h1
    exact hasB_digit (List.all_eq_true.1 h1 b hb)
  have hlt : (L s).foldl dv 0 < 9223372036854775808 := by
    have hb := dv_lt (L s) 0 hd
    unfold numOK at h2
    simp only [Bool.and_eq_true, Bool.or_eq_true, Bool.not_eq_true', Bool.or_eq_false_iff, decide_eq_true_eq, decide_eq_false_iff_not] at h2
    obtain ⟨⟨_, h3⟩, h4⟩ := h2
    have hlen := L_len s
    rcases h4 with h4 | h4 | h4
    · have : 10 ^ (L s).length ≤ 10 ^ 18 := Nat.pow_le_pow_right (by decide) (by omega)
      omega
    · have e1 : s.toList = L s := toList_eq s
      have e2 : maxNum.toList = L maxNum := toList_eq _
      have hm : (L maxNum).foldl dv 0 = 9223372036854775807 := by decide
      by_cases h19 : s.size = 19
      · have := dv_lex (L s) (L maxNum) 0 (by rw [hlen, h19]; rfl) hd (by decide) (by rw [← e1, ← e2]; exact h4)
        omega
      · have : 10 ^ (L s).length ≤ 10 ^ 18 := Nat.pow_le_pow_right (by decide) (by omega)
        omega
    · have hm : (L maxNum).foldl dv 0 = 9223372036854775807 := by decide
      rw [h4]; omega
  exact ⟨numV_eq (L s) 0 hd hlt, hlt⟩
theorem parse_ok {s : Bytes} (h : (parse s).2.1 = 0) : DefOK (parse s).1 := by
  unfold parse at h ⊢
  dsimp only at h ⊢
  split at h
  · rename_i hc; exact absurd h hc
  · rename_i hc
    rw [if_neg hc]
    have hc' : (tokens s).2.1 = 0 := by simpa using hc
    split at h
    · cases h
    · rename_i hp
      rw [if_neg hp]
      obtain ⟨l0, e1, e2, e3, e4⟩ := tokens_ok hc'
      have hnum : numsOK (tokens s).1 := by
        intro p hk
        have hq : numQ (tk (tokens s).1 p) := by
          unfold tk
          rw [List.getD_eq_getElem?_getD]
          cases hg : (tokens s).1[p.toNat]? with
          | none => intro hk; cases hk
          | some x =>
            have hm := List.mem_of_getElem? hg
            simp only [Option.getD_some]
            unfold tokens at hm
            split at hm
            · simp at hm
            · exact toksF_num s _ _ _ (by simp) x hm
        obtain ⟨q1, q2⟩ := hq hk
        rw [(numV_nat q1 q2).1]
        omega
      have hT : Toks (tokens s).1 := by rw [e1]; exact Toks.of rfl e2 e4.kind
      have hpos : 0 ≤ (defP (tokens s).1).2 := by
        have h0 : fixP (tokens s).1 (defP (tokens s).1).2 = (defP (tokens s).1).2 ∨ fixP (tokens s).1 (defP (tokens s).1).2 = bad (defP (tokens s).1).2 := by unfold fixP; split <;> simp
        rcases h0 with h0 | h0
        · rw [h0] at hp; omega
        · exfalso
          apply hp
          by_cases hn : 0 ≤ (defP (tokens s).1).2
          · rw [h0]; unfold bad; omega
          · have : fixP (tokens s).1 (defP (tokens s).1).2 = (defP (tokens s).1).2 := by unfold fixP; simp [hn]
            rw [this]; omega
      have hk := defP_took hnum hpos
      have hok := (defP_ok hT).2
      have hlen : (tokens s).1.length ≤ 481 := by rw [e1]; simp; omega
      exact ⟨by dsimp only; omega, by dsimp only; omega, hk.2⟩
end Go.Proofs.Ytphjldhdnmoolaa.A
/- The walks of some functions over the abstract machine. -/
namespace Go.Proofs.Ytphjldhdnmoolaa.A
open Go
def w1 : Bytes := ⟨#[111, 112, 32, 111, 40, 41, 32, 123, 32, 91, 120, 93, 32, 61, 32, 49, 59, 32, 125]⟩
def w2 : Bytes := ⟨#[111, 112, 32, 103, 101, 116, 40, 105, 41, 32, 123, 32, 103, 105, 118, 101, 32, 91, 105, 93, 59, 32, 125]⟩
def w3 : Bytes := ⟨#[111, 112, 32, 97, 100, 100, 40, 105, 44, 32, 118, 41, 32, 123, 32, 110, 101, 101, 100, 32, 105, 32, 60, 32, 54, 48, 59, 32, 91, 105, 93, 32, 43, 61, 32, 118, 59, 32, 125]⟩
set_option maxRecDepth 100000 in
theorem w1_ok : checkedP w1 = (Info0, 9, 10, true) := by kernel_rfl
set_option maxRecDepth 100000 in
theorem w2_ok : (checkedP w2).1.mode = 1 ∧ (checkedP w2).2.1 = 0 := by constructor <;> kernel_rfl
set_option maxRecDepth 100000 in
theorem w3_ok : (checkedP w3).1.mode = 2 ∧ (checkedP w3).1.turns = true ∧ (checkedP w3).1.names = 2 ∧ (checkedP w3).2.1 = 0 ∧ (checkedP w3).2.2.2 = true := by refine ⟨?_, ?_, ?_, ?_, ?_⟩ <;> kernel_rfl
set_option maxRecDepth 100000 in
set_option maxHeartbeats 4000000 in
theorem alive8_sim (m : Mem) : Sim 21 [] m (fun r m' => r = bb true ∧ m' = m) := by
  refine Sim.ofS 67 [.tmp 0] Try.func21 rfl rfl rfl (by simp) fun wr => ?_
  simp only [go_sem, Nat.reduceEqDiff, Nat.reduceBEq, Int.reduceToNat, Int.reduceLT, Int.reduceLE, Int.reduceEq, Nat.reduceLeDiff, Nat.reduceLT, Nat.reduceMul, Nat.reduceAdd, String.reduceEq]
  have h1 := fun m => checked_sim m w1 (by decide) parse_ok
  have h2 := fun m => checked_sim m w2 (by decide) parse_ok
  have h3 := fun m => checked_sim m w3 (by decide) parse_ok
  rw [w1_ok] at h1
  obtain ⟨q1, q2⟩ := w2_ok
  obtain ⟨r1, r2, r3, r4, r5⟩ := w3_ok
  generalize checkedP w2 = X at h2 q1 q2
  generalize checkedP w3 = Y at h3 r1 r2 r3 r4 r5
  refine TS.of [] fun Q hQ => ?_
  simp only [go_sem, Nat.reduceEqDiff, Nat.reduceBEq, Int.reduceToNat, Int.reduceLT, Int.reduceLE, Int.reduceEq, Nat.reduceLeDiff, Nat.reduceLT, Nat.reduceMul, Nat.reduceAdd, String.reduceEq]
  refine cal_eq (h3 _) ?_
  simp only [go_sem, Nat.reduceEqDiff, Nat.reduceBEq, Int.reduceToNat, Int.reduceLT, Int.reduceLE, Int.reduceEq, Nat.reduceLeDiff, Nat.reduceLT, Nat.reduceMul, Nat.reduceAdd, String.reduceEq]
  refine cal_eq (h2 _) ?_
  simp only [go_sem, Nat.reduceEqDiff, Nat.reduceBEq, Int.reduceToNat, Int.reduceLT, Int.reduceLE, Int.reduceEq, Nat.reduceLeDiff, Nat.reduceLT, Nat.reduceMul, Nat.reduceAdd, String.reduceEq]
  refine cal_eq (h1 _) ?_
  simp only [go_sem, Nat.reduceEqDiff, Nat.reduceBEq, Int.reduceToNat, Int.reduceLT, Int.reduceLE, Int.reduceEq, Nat.reduceLeDiff, Nat.reduceLT, Nat.reduceMul, Nat.reduceAdd, String.reduceEq, q1, q2, r1, r2, r3, r4, r5]
  refine hQ .ret _ ?_; clear hQ Q; refine post_ret _ _ (bb true) ?_ rfl (DropW.tail0 _ rfl) ⟨rfl, rfl⟩
  simp only [go_sem, Nat.reduceEqDiff, Nat.reduceBEq, Int.reduceToNat, Int.reduceLT, Int.reduceLE, Int.reduceEq, Nat.reduceLeDiff, Nat.reduceLT, Nat.reduceMul, Nat.reduceAdd, String.reduceEq]
end Go.Proofs.Ytphjldhdnmoolaa.A
/- The walks of some functions over the abstract machine. -/
namespace Go.Proofs.Ytphjldhdnmoolaa.A
open Go
/-! a quick lexer -/
def isLet (b : UInt8) : Bool := (decide (65 ≤ b.toNat) && decide (b.toNat ≤ 90)) || (decide (97 ≤ b.toNat) && decide (b.toNat ≤ 122))
def isDig (b : UInt8) : Bool := decide (48 ≤ b.toNat) && decide (b.toNat ≤ 57)
def isWly (b : UInt8) : Bool := isLet b || isDig b || decide (b.toNat = 95)
def isSgn (b : UInt8) : Bool := hasB signs b.toNat
theorem u8_all {p : UInt8 → Bool} (h : (List.range 256).all (fun n => p (UInt8.ofNat n)) = true) (b : UInt8) : p b = true := by
  have h1 := List.all_eq_true.1 h b.toNat (List.mem_range.2 b.toNat_lt)
  simpa using h1
set_option maxRecDepth 100000 in
theorem has_letters (b : UInt8) : hasB letters b.toNat = isLet b := by
  simpa using u8_all (p := fun b => decide (hasB letters b.toNat = isLet b)) (by kernel_rfl) b
set_option maxRecDepth 100000 in
theorem has_wordly (b : UInt8) : hasB wordly b.toNat = isWly b := by
  simpa using u8_all (p := fun b => decide (hasB wordly b.toNat = isWly b)) (by kernel_rfl) b
set_option maxRecDepth 100000 in
theorem has_digits (b : UInt8) : hasB digits b.toNat = isDig b := by
  simpa using u8_all (p := fun b => decide (hasB digits b.toNat = isDig b)) (by kernel_rfl) b
set_option maxRecDepth 100000 in
theorem let_facts (b : UInt8) : (isLet b → isDig b = false ∧ isSgn b = false ∧ isWly b = true ∧ b.toNat ≠ 38 ∧ b.toNat ≠ 124 ∧ b.toNat ≠ 46 ∧ b.toNat ≠ 35 ∧ b.toNat ≠ 32 ∧ b.toNat ≠ 9 ∧ b.toNat ≠ 10) := by
  have := u8_all (p := fun b => !isLet b || (!isDig b && (!isSgn b && (isWly b && (!decide (b.toNat = 38) && (!decide (b.toNat = 124) && (!decide (b.toNat = 46) && (!decide (b.toNat = 35) && (!decide (b.toNat = 32) && (!decide (b.toNat = 9) && !decide (b.toNat = 10))))))))))) (by kernel_rfl) b
  intro h; simpa [h] using this
set_option maxRecDepth 100000 in
theorem dig_facts (b : UInt8) : (isDig b → isLet b = false ∧ isSgn b = false ∧ b.toNat ≠ 38 ∧ b.toNat ≠ 124 ∧ b.toNat ≠ 46 ∧ b.toNat ≠ 35 ∧ b.toNat ≠ 32 ∧ b.toNat ≠ 9 ∧ b.toNat ≠ 10) := by
  have := u8_all (p := fun b => !isDig b || (!isLet b && (!isSgn b && (!decide (b.toNat = 38) && (!decide (b.toNat = 124) && (!decide (b.toNat = 46) && (!decide (b.toNat = 35) && (!decide (b.toNat = 32) && (!decide (b.toNat = 9) && !decide (b.toNat = 10)))))))))) (by kernel_rfl) b
  intro h; simpa [h] using this
def ofL (l : List UInt8) : Bytes := ⟨⟨l⟩⟩
theorem L_ofL (l : List UInt8) : L (ofL l) = l := rfl
theorem ofL_L (s : Bytes) : ofL (L s) = s := rfl
theorem L_inj {s t : Bytes} (h : L s = L t) : s = t := by rw [← ofL_L s, ← ofL_L t, h]
def twoL (l : List UInt8) : Bool := decide (l = [43, 61]) || decide (l = [45, 61]) || decide (l = [60, 62]) || decide (l = [60, 61]) || decide (l = [62, 61]) || decide (l = [61, 61]) || decide (l = [33, 61]) || decide (l = [38, 38]) || decide (l = [124, 124]) || decide (l = [46, 46])
theorem two_L (s : Bytes) : two s = twoL (L s) := by
  have h : ∀ t : Bytes, decide (s = t) = decide (L s = L t) := fun t => by
    rw [decide_eq_decide]; exact ⟨fun h => by rw [h], L_inj⟩
  unfold two twoL
  simp only [h]
  rfl
theorem twoL_len {l : List UInt8} (h : twoL l = true) : l.length = 2 := by
  unfold twoL at h
  simp only [Bool.or_eq_true, decide_eq_true_eq] at h
  rcases h with (((((((((h | h) | h) | h) | h) | h) | h) | h) | h) | h) <;> rw [h] <;> rfl
set_option maxRecDepth 100000 in
theorem twoL_first {b : UInt8} {r : List UInt8} (h : twoL (b :: r) = true) : isSgn b = true ∨ b.toNat = 38 ∨ b.toNat = 124 ∨ b.toNat = 46 := by
  unfold twoL at h
  simp only [Bool.or_eq_true, decide_eq_true_eq, List.cons.injEq] at h
  rcases h with (((((((((h | h) | h) | h) | h) | h) | h) | h) | h) | h) <;> obtain ⟨rfl, rfl⟩ := h <;> decide
def goodL : List UInt8 → Bool
  | [] => true
  | b :: r => if isLet b then r.all isWly else if isDig b then r.all isDig else match r with
    | [] => isSgn b
    | c :: r => twoL (b :: c :: r)
theorem longB_L (s : Bytes) : longB s = match L s with | b :: r => isLet b && (b :: r).all isWly | [] => false := by
  unfold longB allB
  cases L s with
  | nil => rfl
  | cons b r => simp only [List.getElem?_cons_zero, has_letters, has_wordly]
theorem signB_L (s : Bytes) : signB s = match L s with | [] => false | [b] => isSgn b | b :: c :: r => twoL (b :: c :: r) := by
  unfold signB
  rw [two_L, ← L_len]
  cases L s with
  | nil => rfl
  | cons b r => cases r with
    | nil => simp [isSgn]
    | cons c r => simp
theorem good_L (s : Bytes) : good s = goodL (L s) := by
  unfold good
  rw [longB_L, signB_L]
  unfold allB
  simp only [has_digits]
  cases L s with
  | nil => rfl
  | cons b r =>
    by_cases hl : isLet b = true
    · have h := let_facts b hl
      have h2 : (match b :: r with | [] => false | [b] => isSgn b | b :: c :: r => twoL (b :: c :: r)) = false := by
        cases r with
        | nil => exact h.2.1
        | cons c r =>
          dsimp only
          cases e : twoL (b :: c :: r) with
          | false => rfl
          | true => exact absurd (twoL_first e) (by simp [h])
      rw [h2]
      simp [goodL, hl, h]
    · by_cases hd : isDig b = true
      · have h := dig_facts b hd
        have h2 : (match b :: r with | [] => false | [b] => isSgn b | b :: c :: r => twoL (b :: c :: r)) = false := by
          cases r with
          | nil => exact h.2.1
          | cons c r =>
            dsimp only
            cases e : twoL (b :: c :: r) with
            | false => rfl
            | true => exact absurd (twoL_first e) (by simp [h])
        rw [h2]
        simp [goodL, hd, h]
      · simp only [goodL, hl, hd]
        cases r with
        | nil => simp [hl, hd]
        | cons c r => simp [hl, hd]
def sgnLen (b : UInt8) : List UInt8 → Nat
  | [] => if isSgn b then 1 else 0
  | c :: _ => if twoL [b, c] then 2 else if isSgn b then 1 else 0
def tlen : List UInt8 → Nat
  | [] => 0
  | b :: r => if isLet b then 1 + (r.takeWhile isWly).length else if isDig b then 1 + (r.takeWhile isDig).length else sgnLen b r
theorem all_take {p : UInt8 → Bool} : ∀ (r : List UInt8) (j : Nat), j ≤ r.length → ((r.take j).all p = true ↔ j ≤ (r.takeWhile p).length)
  | [], j, h => by simp at h; subst h; simp
  | b :: r, 0, h => by simp
  | b :: r, j + 1, h => by
    have ih := all_take (p := p) r j (by simpa using h)
    by_cases hb : p b = true
    · simp [List.takeWhile_cons, hb, ih]
    · simp [List.takeWhile_cons, hb]
theorem tlen_le : ∀ r : List UInt8, tlen r ≤ r.length
  | [] => Nat.le_refl _
  | b :: r => by
    have h1 := (List.takeWhile_sublist (l := r) isWly).length_le
    have h2 := (List.takeWhile_sublist (l := r) isDig).length_le
    rw [tlen.eq_2, List.length_cons]
    by_cases hl : isLet b = true
    · rw [if_pos hl]; omega
    · rw [if_neg hl]
      by_cases hd : isDig b = true
      · rw [if_pos hd]; omega
      · rw [if_neg hd]
        cases r with
        | nil => simp only [sgnLen]; split <;> simp
        | cons c r => simp only [sgnLen]; simp only [List.length_cons]; (repeat' split) <;> omega
theorem good_tlen : ∀ (r : List UInt8), 0 < tlen r → goodL (r.take (tlen r)) = true
  | [], h => by simp [tlen] at h
  | b :: r, h => by
    by_cases hl : isLet b = true
    · have ht : tlen (b :: r) = (r.takeWhile isWly).length + 1 := by rw [tlen.eq_2, if_pos hl, Nat.add_comm]
      rw [ht, List.take_succ_cons]
      simp only [goodL, hl, if_true]
      exact (all_take r _ (List.takeWhile_sublist _).length_le).2 (Nat.le_refl _)
    · by_cases hd : isDig b = true
      · have ht : tlen (b :: r) = (r.takeWhile isDig).length + 1 := by rw [tlen.eq_2, if_neg hl, if_pos hd, Nat.add_comm]
        rw [ht, List.take_succ_cons]
        simp only [goodL, hl, hd, if_true]
        exact (all_take r _ (List.takeWhile_sublist _).length_le).2 (Nat.le_refl _)
      · cases r with
        | nil =>
          by_cases hs : isSgn b = true
          · simp [tlen, sgnLen, hl, hd, hs, goodL]
          · simp [tlen, sgnLen, hl, hd, hs] at h
        | cons c r =>
          by_cases h2 : twoL [b, c] = true
          · simp [tlen, sgnLen, hl, hd, h2, goodL]
          · by_cases hs : isSgn b = true
            · simp [tlen, sgnLen, hl, hd, h2, hs, goodL]
            · simp [tlen, sgnLen, hl, hd, h2, hs] at h
theorem bad_tlen : ∀ (r : List UInt8) (k : Nat), tlen r < k → k ≤ r.length → goodL (r.take k) = false
  | [], k, h, hk => by simp at hk; subst hk; simp [tlen] at h
  | b :: r, 0, h, hk => by omega
  | b :: r, k + 1, h, hk => by
    have hk' : k ≤ r.length := by simpa using hk
    rw [List.take_succ_cons]
    by_cases hl : isLet b = true
    · have ht : tlen (b :: r) = (r.takeWhile isWly).length + 1 := by rw [tlen.eq_2, if_pos hl, Nat.add_comm]
      simp only [goodL, hl, if_true]
      rw [← Bool.not_eq_true, all_take r k hk']; omega
    · by_cases hd : isDig b = true
      · have ht : tlen (b :: r) = (r.takeWhile isDig).length + 1 := by rw [tlen.eq_2, if_neg hl, if_pos hd, Nat.add_comm]
        simp only [goodL, hl, hd, if_true]
        rw [← Bool.not_eq_true]
        simp only [Bool.false_eq_true, if_false]
        rw [all_take r k hk']; omega
      · cases r with
        | nil =>
          simp at hk'; subst hk'
          by_cases hs : isSgn b = true
          · simp [tlen, sgnLen, hl, hd, hs] at h
          · simp [goodL, hl, hd, hs]
        | cons c r =>
          match k, hk', h with
          | 0, _, h =>
            by_cases hs : isSgn b = true
            · exfalso; simp only [tlen, sgnLen, hl, hd, hs, if_false, if_true] at h; revert h; simp; split <;> simp
            · simp [goodL, hl, hd, hs]
          | 1, _, h =>
            by_cases h2 : twoL [b, c] = true
            · simp [tlen, sgnLen, hl, hd, h2] at h
            · simp [goodL, hl, hd, h2]
          | k + 2, hk', _ =>
            simp only [List.take_succ_cons, goodL, hl, hd]
            cases e : twoL (b :: c :: r.take (k + 1)) with
            | false => simp
            | true =>
              have h9 := twoL_len e
              simp only [List.length_cons, List.length_take] at h9 hk'
              omega
theorem lastE_eq {s : Bytes} {a e : Nat} (ha : a ≤ e) (hg : e = a ∨ good (s.extract a e) = true) : ∀ n, e ≤ n → (∀ k, e < k → k ≤ n → good (s.extract a k) = false) → lastE s a n = e
  | 0, hn, _ => by simp [lastE]; omega
  | n + 1, hn, hb => by
    rw [lastE_succ]
    by_cases he : e = n + 1
    · rw [if_neg]
      · exact he.symm
      · rintro ⟨h1, h2⟩
        rcases hg with hg | hg
        · omega
        · rw [he] at hg; rw [hg] at h2; cases h2
    · rw [if_pos ⟨by omega, hb _ (by omega) (Nat.le_refl _)⟩]
      exact lastE_eq ha hg n (by omega) fun k h1 h2 => hb k h1 (by omega)
theorem L_ext (s : Bytes) (a e : Nat) : L (s.extract a e) = ((L s).drop a).take (e - a) := by
  unfold L
  simp [ByteArray.data_extract, Array.toList_extract, List.extract_eq_take_drop]
theorem lastE_tlen (s : Bytes) (a : Nat) (ha : a ≤ s.size) : lastE s a s.size = a + tlen ((L s).drop a) := by
  have hl := tlen_le ((L s).drop a)
  rw [List.length_drop, L_len] at hl
  refine lastE_eq (by omega) ?_ _ (by omega) ?_
  · by_cases h : tlen ((L s).drop a) = 0
    · left; omega
    · right
      rw [good_L, L_ext]
      have : a + tlen ((L s).drop a) - a = tlen ((L s).drop a) := by omega
      rw [this]
      exact good_tlen _ (by omega)
  · intro k h1 h2
    rw [good_L, L_ext]
    exact bad_tlen _ _ (by omega) (by rw [List.length_drop, L_len]; omega)
def kindL : List UInt8 → Int
  | [] => 0
  | b :: r => if isLet b then (if (r.takeWhile isWly).length < 16 then 1 else 0) else if isDig b then (if numOK (ofL (b :: r.takeWhile isDig)) then 2 else 0) else if tlen (b :: r) = 0 then 0 else 3
theorem take_while (p : UInt8 → Bool) (r : List UInt8) : r.take (r.takeWhile p).length = r.takeWhile p := (List.prefix_iff_eq_take.1 (List.takeWhile_prefix p)).symm
theorem all_while (p : UInt8 → Bool) : ∀ r : List UInt8, (r.takeWhile p).all p = true
  | [] => rfl
  | b :: r => by
    by_cases h : p b = true
    · rw [List.takeWhile_cons, if_pos h, List.all_cons, h, all_while p r]; rfl
    · rw [List.takeWhile_cons, if_neg h]; rfl
theorem size_ofL (l : List UInt8) : (ofL l).size = l.length := rfl
theorem kind_tlen : ∀ r : List UInt8, kindT (ofL (r.take (tlen r))) (decide (0 < tlen r)) = kindL r
  | [] => by decide
  | b :: r => by
    by_cases hl : isLet b = true
    · have hf := let_facts b hl
      have ht : tlen (b :: r) = (r.takeWhile isWly).length + 1 := by rw [tlen.eq_2, if_pos hl, Nat.add_comm]
      rw [ht, List.take_succ_cons, take_while]
      have hs : signB (ofL (b :: r.takeWhile isWly)) = false := by
        rw [signB_L, L_ofL]
        cases e : r.takeWhile isWly with
        | nil => exact hf.2.1
        | cons c q =>
          cases e2 : twoL (b :: c :: q) with
          | false => exact e2
          | true => exact absurd (twoL_first e2) (by simp [hf])
      have hd : allB (ofL (b :: r.takeWhile isWly)) digits = false := by
        unfold allB; rw [L_ofL]; simp [has_digits, hf]
      have hw : longB (ofL (b :: r.takeWhile isWly)) = true := by
        rw [longB_L, L_ofL]; simp only [hl, List.all_cons, hf, all_while]; rfl
      unfold kindT wordB
      rw [hs, hd, hw, size_ofL]
      by_cases hn : (r.takeWhile isWly).length < 16
      · have : (b :: r.takeWhile isWly).length ≤ 16 := by simp only [List.length_cons]; omega
        simp only [this]; simp [kindL, hl, hn]
      · have : ¬ (b :: r.takeWhile isWly).length ≤ 16 := by simp only [List.length_cons]; omega
        simp only [this]
        simp [kindL, hl, hn]
    · by_cases hd : isDig b = true
      · have hf := dig_facts b hd
        have ht : tlen (b :: r) = (r.takeWhile isDig).length + 1 := by rw [tlen.eq_2, if_neg hl, if_pos hd, Nat.add_comm]
        rw [ht, List.take_succ_cons, take_while]
        have hs : signB (ofL (b :: r.takeWhile isDig)) = false := by
          rw [signB_L, L_ofL]
          cases e : r.takeWhile isDig with
          | nil => exact hf.2.1
          | cons c q =>
            cases e2 : twoL (b :: c :: q) with
            | false => exact e2
            | true => exact absurd (twoL_first e2) (by simp [hf])
        have hdd : allB (ofL (b :: r.takeWhile isDig)) digits = true := by
          unfold allB; rw [L_ofL]; simp only [has_digits, List.all_cons, hd, all_while]; rfl
        have hw : longB (ofL (b :: r.takeWhile isDig)) = false := by
          rw [longB_L, L_ofL]; simp [hf]
        unfold kindT wordB
        rw [hs, hdd, hw]
        simp [kindL, hl, hd]
      · unfold kindL
        simp only [hl, hd, Bool.false_eq_true, if_false]
        have hlg : ∀ q, longB (ofL (b :: q)) = false := fun q => by rw [longB_L, L_ofL]; simp [hl]
        by_cases h0 : tlen (b :: r) = 0
        · rw [if_pos h0, h0]; simp only [List.take_zero]; decide
        · rw [if_neg h0]
          cases r with
          | nil =>
            by_cases hs : isSgn b = true
            · have ht : tlen [b] = 1 := by simp [tlen, sgnLen, hl, hd, hs]
              rw [ht]
              have : signB (ofL (List.take 1 [b])) = true := by rw [signB_L, L_ofL]; exact hs
              unfold kindT; rw [if_pos this]
            · simp [tlen, sgnLen, hl, hd, hs] at h0
          | cons c r =>
            by_cases h2 : twoL [b, c] = true
            · have ht : tlen (b :: c :: r) = 2 := by simp [tlen, sgnLen, hl, hd, h2]
              rw [ht]
              have : signB (ofL (List.take 2 (b :: c :: r))) = true := by rw [signB_L, L_ofL]; exact h2
              unfold kindT; rw [if_pos this]
            · by_cases hs : isSgn b = true
              · have ht : tlen (b :: c :: r) = 1 := by simp [tlen, sgnLen, hl, hd, h2, hs]
                rw [ht]
                have : signB (ofL (List.take 1 (b :: c :: r))) = true := by rw [signB_L, L_ofL]; exact hs
                unfold kindT; rw [if_pos this]
              · simp [tlen, sgnLen, hl, hd, h2, hs] at h0
def consT (t : Tok) (x : List Tok × Int × Int) : List Tok × Int × Int := if x.2.1 = 0 then (t :: x.1, 0, 0) else x
def nlen (r : List UInt8) : Nat := (r.takeWhile (fun b => !decide (b.toNat = 10))).length
def lexR : Nat → List UInt8 → Nat → List Tok × Int × Int
  | 0, _, _ => ([], 0, 0)
  | _ + 1, [], p => ([⟨4, ByteArray.empty, p⟩], 0, 0)
  | f + 1, b :: r, p => if b.toNat = 32 ∨ b.toNat = 9 ∨ b.toNat = 10 then lexR f r (p + 1)
    else if b.toNat = 35 then lexR f ((b :: r).drop (nlen (b :: r))) (p + nlen (b :: r))
    else if kindL (b :: r) = 0 then ([], 7, p)
    else consT ⟨kindL (b :: r), ofL ((b :: r).take (tlen (b :: r))), p⟩ (lexR f ((b :: r).drop (tlen (b :: r))) (p + tlen (b :: r)))
theorem ext_ofL (s : Bytes) (a k : Nat) : s.extract a (a + k) = ofL (((L s).drop a).take k) := L_inj (by rw [L_ext, L_ofL]; congr 1; omega)
def preT (acc : List Tok) (x : List Tok × Int × Int) : List Tok × Int × Int := if x.2.1 = 0 then (acc ++ x.1, 0, 0) else x
theorem preT_cons (acc : List Tok) (t : Tok) (x : List Tok × Int × Int) : preT acc (consT t x) = preT (acc ++ [t]) x := by
  unfold preT consT
  by_cases h : x.2.1 = 0
  · simp [h]
  · simp [h]
theorem kind_pos {r : List UInt8} (h : kindL r ≠ 0) : 0 < tlen r := by
  apply Nat.pos_of_ne_zero
  intro h0
  apply h
  rw [← kind_tlen, h0]; simp; decide
theorem toksF_lexR (s : Bytes) : ∀ (f a : Nat) (acc : List Tok), a ≤ s.size → s.size + 1 ≤ f + a → toksF s f a acc = preT acc (lexR f ((L s).drop a) a)
  | 0, a, acc, h1, h2 => by omega
  | f + 1, a, acc, h1, h2 => by
    unfold toksF
    cases hb : (L s)[a]? with
    | none =>
      have : s.size ≤ a := by rw [← L_len]; exact List.getElem?_eq_none_iff.1 hb
      have h3 : (L s).drop a = [] := List.drop_eq_nil_of_le (by rw [L_len]; exact this)
      have h4 : a = s.size := by omega
      rw [h3, h4]; rfl
    | some b =>
      obtain ⟨hlt, hb'⟩ := List.getElem?_eq_some_iff.1 hb
      have hd : (L s).drop a = b :: (L s).drop (a + 1) := by rw [List.drop_eq_getElem_cons hlt, hb']
      rw [L_len] at hlt
      dsimp only
      rw [lastE_tlen s a h1]
      have hk : kindT (s.extract a (a + tlen ((L s).drop a))) (decide (a < a + tlen ((L s).drop a))) = kindL ((L s).drop a) := by
        rw [ext_ofL, ← kind_tlen]
        congr 1
        rw [decide_eq_decide]; omega
      rw [hk, hd]
      unfold lexR
      by_cases hsp : b.toNat = 32 ∨ b.toNat = 9 ∨ b.toNat = 10
      · rw [if_pos hsp, if_pos hsp, toksF_lexR s f (a + 1) acc (by omega) (by omega)]
      · rw [if_neg hsp, if_neg hsp]
        by_cases hc : b.toNat = 35
        · rw [if_pos hc, if_pos hc]
          have hn := nlp_le (s := s) (k := a) h1
          have hn0 : nlp s a = a + nlen (b :: (L s).drop (a + 1)) := by unfold nlp nlen; rw [hd]
          have hgt : 0 < nlen (b :: (L s).drop (a + 1)) := by
            unfold nlen; rw [List.takeWhile_cons]; simp [hc]
          rw [hn0] at hn ⊢
          rw [toksF_lexR s f _ acc (by omega) (by omega), ← hd, List.drop_drop]
        · rw [if_neg hc, if_neg hc]
          by_cases h0 : kindL (b :: (L s).drop (a + 1)) = 0
          · rw [if_pos h0, if_pos h0]; rfl
          · rw [if_neg h0, if_neg h0]
            have hp := kind_pos h0
            have hl := tlen_le (b :: (L s).drop (a + 1))
            rw [← hd, List.length_drop, L_len, hd] at hl
            rw [toksF_lexR s f _ _ (by omega) (by omega), preT_cons, ext_ofL, hd, ← hd, List.drop_drop, hd]
theorem preT_nil (x : List Tok × Int × Int) (h : x.2.1 = 0 → x.2.2 = 0) : preT [] x = x := by
  obtain ⟨l, c, p⟩ := x
  unfold preT
  by_cases hc : c = 0
  · have := h hc; dsimp only at this ⊢; simp [hc, this]
  · simp [hc]
theorem lexR_ok : ∀ (f : Nat) (r : List UInt8) (p : Nat), (lexR f r p).2.1 = 0 → (lexR f r p).2.2 = 0
  | 0, _, _, _ => rfl
  | _ + 1, [], _, _ => rfl
  | f + 1, b :: r, p, h => by
    revert h
    unfold lexR consT
    split
    · exact lexR_ok _ _ _
    · split
      · exact lexR_ok _ _ _
      · split
        · intro h; cases h
        · split
          · exact fun _ => rfl
          · intro h; contradiction
def quick (s : Bytes) : List Tok × Int × Int := if 480 < s.size then ([], 2, 0) else lexR (s.size + 1) (L s) 0
theorem tokens_quick (s : Bytes) : tokens s = quick s := by
  unfold tokens quick
  split
  · rfl
  · rw [toksF_lexR s _ 0 [] (by omega) (by omega), preT_nil]
    · rfl
    · rw [List.drop_zero]; exact lexR_ok _ _ _
end Go.Proofs.Ytphjldhdnmoolaa.A
/- The walks of some functions over the abstract machine. -/
namespace Go.Proofs.Ytphjldhdnmoolaa.A
open Go
/-! closed texts, quickly; CheckScopes -/
def parseQ (s : Bytes) : Def × Int × Int :=
  let t := quick s
  if t.2.1 ≠ 0 then (D0, t.2.1, t.2.2)
  else let d := defP t.1
    if fixP t.1 d.2 < 0 then (D0, 8, (tk t.1 (-1 - fixP t.1 d.2)).p) else (d.1, 0, 0)
theorem parse_Q (s : Bytes) : parse s = parseQ s := by unfold parse parseQ; rw [tokens_quick]
def checkedQ (s : Bytes) : Info × Int × Int × Bool := if (parseQ s).2.1 = 0 then ((check (parseQ s).1).1, (faultP (check (parseQ s).1).2).1, (faultP (check (parseQ s).1).2).2, true) else (Info0, 0, 0, false)
theorem checked_Q (s : Bytes) : checkedP s = checkedQ s := by unfold checkedP checkedQ; rw [parse_Q]
theorem umodc (p : Int) (c : Nat) (hc : 0 < c) (hc' : c < 1000) : ∃ k : Nat, k < c ∧ IntKind.i64.wrap ((IntKind.u64.wrap p).tmod c) = (k : Int) := by
  have h0 : 0 ≤ IntKind.u64.wrap p := by simp only [IntKind.wrap, IntKind.bits, IntKind.signed]; simp; omega
  have h1 := Int.emod_nonneg (IntKind.u64.wrap p) (b := (c : Int)) (by omega)
  have h2 := Int.emod_lt_of_pos (IntKind.u64.wrap p) (b := (c : Int)) (by omega)
  refine ⟨((IntKind.u64.wrap p).tmod c).toNat, ?_, ?_⟩
  · rw [Int.tmod_eq_emod_of_nonneg h0]; omega
  · rw [Int.tmod_eq_emod_of_nonneg h0, wrap_small (by omega) (by omega)]; omega
theorem scope_mod (p : Int) : ∃ k : Nat, k < 6 ∧ IntKind.i64.wrap ((IntKind.u64.wrap p).tmod 6) = (k : Int) := umodc p 6 (by decide) (by decide)
abbrev scT (a b c d e f : Bytes) : Bytes := (⟨#[111, 112, 32, 111, 40, 41, 32, 123, 32]⟩ : Bytes) ++ a ++ ⟨#[105, 102, 32, 116, 114, 117, 101, 32, 123, 32]⟩ ++ b ++ ⟨#[108, 101, 116, 32, 119, 32, 61, 32, 49, 59, 32]⟩ ++ c ++ ⟨#[102, 111, 114, 32, 105, 32, 105, 110, 32, 48, 46, 46, 50, 32, 123, 32]⟩ ++ d ++ ⟨#[125, 32, 125, 32, 101, 108, 115, 101, 32, 123, 32]⟩ ++ e ++ ⟨#[125, 32]⟩ ++ f ++ ⟨#[125]⟩
abbrev scU : Bytes := ⟨#[91, 119, 93, 32, 61, 32, 49, 59, 32]⟩
abbrev scE : Bytes := ⟨#[]⟩
set_option maxRecDepth 100000
theorem sc0 : checkedP (scT scU scE scE scE scE scE) = (Info0, 9, 10, true) ∧ (scT scU scE scE scE scE scE)[10]? = some 119 := ⟨by rw [checked_Q]; kernel_rfl, by kernel_rfl⟩
theorem sc1 : checkedP (scT scE scU scE scE scE scE) = (Info0, 9, 20, true) ∧ (scT scE scU scE scE scE scE)[20]? = some 119 := ⟨by rw [checked_Q]; kernel_rfl, by kernel_rfl⟩
theorem sc2 : (checkedP (scT scE scE scU scE scE scE)).2.1 = 0 ∧ (checkedP (scT scE scE scU scE scE scE)).1.mode = 3 ∧ (checkedP (scT scE scE scU scE scE scE)).1.names = 2 ∧ (checkedP (scT scE scE scU scE scE scE)).2.2.2 = true := by rw [checked_Q]; exact ⟨by kernel_rfl, by kernel_rfl, by kernel_rfl, by kernel_rfl⟩
theorem sc3 : (checkedP (scT scE scE scE scU scE scE)).2.1 = 0 ∧ (checkedP (scT scE scE scE scU scE scE)).1.mode = 3 ∧ (checkedP (scT scE scE scE scU scE scE)).1.names = 2 ∧ (checkedP (scT scE scE scE scU scE scE)).2.2.2 = true := by rw [checked_Q]; exact ⟨by kernel_rfl, by kernel_rfl, by kernel_rfl, by kernel_rfl⟩
theorem sc4 : checkedP (scT scE scE scE scE scU scE) = (Info0, 9, 58, true) ∧ (scT scE scE scE scE scU scE)[58]? = some 119 := ⟨by rw [checked_Q]; kernel_rfl, by kernel_rfl⟩
theorem sc5 : checkedP (scT scE scE scE scE scE scU) = (Info0, 9, 60, true) ∧ (scT scE scE scE scE scE scU)[60]? = some 119 := ⟨by rw [checked_Q]; kernel_rfl, by kernel_rfl⟩
set_option maxRecDepth 100000 in
set_option maxHeartbeats 4000000 in
theorem scopes_law (m : Mem) (p : Int) : Sim 10 [ii p] m (fun r m' => r = bb true ∧ m' = m) := by
  obtain ⟨k, hk, hkw⟩ := scope_mod p
  refine Sim.ofS 78 [.tmp 2] Try.func10 rfl rfl rfl (by simp) fun wr => ?_
  simp only [go_sem, Nat.reduceEqDiff, Nat.reduceBEq, Int.reduceToNat, Int.reduceLT, Int.reduceLE, Int.reduceEq, Nat.reduceLeDiff, Nat.reduceLT, Nat.reduceMul, Nat.reduceAdd, String.reduceEq]
  refine TS.seq (TS.of [] fun Q hQ => ?_)
  simp only [go_sem, Nat.reduceEqDiff, Nat.reduceBEq, Int.reduceToNat, Int.reduceLT, Int.reduceLE, Int.reduceEq, Nat.reduceLeDiff, Nat.reduceLT, Nat.reduceMul, Nat.reduceAdd, String.reduceEq]
  refine hQ .normal _ ?_; clear hQ Q
  refine TS.seq (TS.of [] fun Q hQ => ?_)
  simp only [go_sem, Nat.reduceEqDiff, Nat.reduceBEq, Int.reduceToNat, Int.reduceLT, Int.reduceLE, Int.reduceEq, Nat.reduceLeDiff, Nat.reduceLT, Nat.reduceMul, Nat.reduceAdd, String.reduceEq]
  refine cal_eq (alive8_sim _) ?_
  simp only [go_sem, Nat.reduceEqDiff, Nat.reduceBEq, Int.reduceToNat, Int.reduceLT, Int.reduceLE, Int.reduceEq, Nat.reduceLeDiff, Nat.reduceLT, Nat.reduceMul, Nat.reduceAdd, String.reduceEq]
  refine hQ .normal _ ?_; clear hQ Q
  refine TS.seq (TS.of [] fun Q hQ => ?_)
  simp only [go_sem, Nat.reduceEqDiff, Nat.reduceBEq, Int.reduceToNat, Int.reduceLT, Int.reduceLE, Int.reduceEq, Nat.reduceLeDiff, Nat.reduceLT, Nat.reduceMul, Nat.reduceAdd, String.reduceEq]
  refine hQ .normal _ ?_; clear hQ Q
  have hk6 : k = 0 ∨ k = 1 ∨ k = 2 ∨ k = 3 ∨ k = 4 ∨ k = 5 := by omega
  rcases hk6 with rfl | rfl | rfl | rfl | rfl | rfl
  all_goals refine TS.of [] fun Q hQ => ?_
  all_goals (simp only [go_sem, Nat.reduceEqDiff, Nat.reduceBEq, Int.reduceToNat, Int.reduceLT, Int.reduceLE, Int.reduceEq, Nat.reduceLeDiff, Nat.reduceLT, Nat.reduceMul, Nat.reduceAdd, String.reduceEq, hkw, show ¬ ((6 : Int) = 0) by decide])
  case' inr.inr.inl => obtain ⟨q1, q2, q3, q4⟩ := sc2
  case' inr.inr.inr.inl => obtain ⟨q1, q2, q3, q4⟩ := sc3
  case' inl =>
    refine cal_eq (checked_sim _ (scT scU scE scE scE scE scE) (by decide) parse_ok) ?_
    rw [sc0.1]
    have hix := sc0.2
  case' inr.inl =>
    refine cal_eq (checked_sim _ (scT scE scU scE scE scE scE) (by decide) parse_ok) ?_
    rw [sc1.1]
    have hix := sc1.2
  case' inr.inr.inl =>
    refine cal_eq (checked_sim _ (scT scE scE scU scE scE scE) (by decide) parse_ok) ?_
    generalize checkedP _ = X at q1 q2 q3 q4
  case' inr.inr.inr.inl =>
    refine cal_eq (checked_sim _ (scT scE scE scE scU scE scE) (by decide) parse_ok) ?_
    generalize checkedP _ = X at q1 q2 q3 q4
  case' inr.inr.inr.inr.inl =>
    refine cal_eq (checked_sim _ (scT scE scE scE scE scU scE) (by decide) parse_ok) ?_
    rw [sc4.1]
    have hix := sc4.2
  case' inr.inr.inr.inr.inr =>
    refine cal_eq (checked_sim _ (scT scE scE scE scE scE scU) (by decide) parse_ok) ?_
    rw [sc5.1]
    have hix := sc5.2
  all_goals first | (simp only [go_sem, Nat.reduceEqDiff, Nat.reduceBEq, Int.reduceToNat, Int.reduceLT, Int.reduceLE, Int.reduceEq, Nat.reduceLeDiff, Nat.reduceLT, Nat.reduceMul, Nat.reduceAdd, String.reduceEq, q1, q2, q3, q4]) | (simp only [go_sem, Nat.reduceEqDiff, Nat.reduceBEq, Int.reduceToNat, Int.reduceLT, Int.reduceLE, Int.reduceEq, Nat.reduceLeDiff, Nat.reduceLT, Nat.reduceMul, Nat.reduceAdd, String.reduceEq, hix])
  all_goals (refine hQ .ret _ ?_; clear hQ Q; refine post_ret _ _ (bb true) ?_ rfl (DropW.tail0 _ rfl) ⟨rfl, rfl⟩)
  all_goals simp only [go_sem, Nat.reduceEqDiff, Nat.reduceBEq, Int.reduceToNat, Int.reduceLT, Int.reduceLE, Int.reduceEq, Nat.reduceLeDiff, Nat.reduceLT, Nat.reduceMul, Nat.reduceAdd, String.reduceEq]
  all_goals rfl
end Go.Proofs.Ytphjldhdnmoolaa.A
/- The walks of some functions over the abstract machine. -/
namespace Go.Proofs.Ytphjldhdnmoolaa.A
open Go
/-! a text made of tokens with a space behind each -/
abbrev spc (b : UInt8) : Prop := b.toNat = 32 ∨ b.toNat = 9 ∨ b.toNat = 10
structure TG (t : List UInt8) (k : Int) : Prop where
  k0 : k ≠ 0
  ne : ∃ b r, t = b :: r ∧ ¬ spc b ∧ b.toNat ≠ 35
  kd : ∀ R, kindL (t ++ 32 :: R) = k
  tl : ∀ R, tlen (t ++ 32 :: R) = t.length
def wordL : List UInt8 → Bool
  | [] => false
  | b :: r => isLet b && r.all isWly
theorem while_app (p : UInt8 → Bool) (h32 : p 32 = false) : ∀ (l R : List UInt8), l.all p = true → (l ++ 32 :: R).takeWhile p = l
  | [], R, h => by rw [List.nil_append, List.takeWhile_cons, if_neg (by rw [h32]; simp)]
  | b :: l, R, h => by
    rw [List.all_cons, Bool.and_eq_true] at h
    rw [List.cons_append, List.takeWhile_cons, if_pos h.1, while_app p h32 l R h.2]
theorem tg_word {t : List UInt8} (h : wordL t = true) (hl : t.length ≤ 16) : TG t 1 := by
  cases t with
  | nil => cases h
  | cons b r =>
    rw [wordL, Bool.and_eq_true] at h
    have hb := let_facts b h.1
    simp only [List.length_cons] at hl
    refine ⟨by decide, ⟨b, r, rfl, ?_, hb.2.2.2.2.2.2.1⟩, fun R => ?_, fun R => ?_⟩
    · rintro (h1 | h1 | h1)
      · exact hb.2.2.2.2.2.2.2.1 h1
      · exact hb.2.2.2.2.2.2.2.2.1 h1
      · exact hb.2.2.2.2.2.2.2.2.2 h1
    · rw [List.cons_append, kindL, if_pos h.1, while_app isWly (by decide) r R h.2, if_pos (by omega)]
    · rw [List.cons_append, tlen, if_pos h.1, while_app isWly (by decide) r R h.2, List.length_cons]; omega
theorem two_32 (b : UInt8) : twoL [b, 32] = false := by
  unfold twoL
  simp only [List.cons.injEq, Bool.or_eq_false_iff, decide_eq_false_iff_not]
  refine ⟨⟨⟨⟨⟨⟨⟨⟨⟨?_, ?_⟩, ?_⟩, ?_⟩, ?_⟩, ?_⟩, ?_⟩, ?_⟩, ?_⟩, ?_⟩ <;> exact fun h => absurd h.2.1 (by decide)
theorem sgn_facts (b : UInt8) : (isSgn b = true ∨ b.toNat = 38 ∨ b.toNat = 124 ∨ b.toNat = 46) → ¬ spc b ∧ b.toNat ≠ 35 := by
  have h := u8_all (p := fun b => decide ((isSgn b = true ∨ b.toNat = 38 ∨ b.toNat = 124 ∨ b.toNat = 46) → ¬ (b.toNat = 32 ∨ b.toNat = 9 ∨ b.toNat = 10) ∧ b.toNat ≠ 35)) (by kernel_rfl) b
  exact of_decide_eq_true h
theorem tg_of {r : List UInt8} (h : kindL r ≠ 0) : TG (r.take (tlen r)) (kindL r) ∧ (kindL r = 1 → wordL (r.take (tlen r)) = true) ∧ (kindL r = 1 ∨ kindL r = 2 ∨ kindL r = 3) ∧ 0 < tlen r := by
  have hp := kind_pos h
  cases r with
  | nil => exact absurd rfl h
  | cons b r =>
    by_cases hl : isLet b = true
    · have hk : kindL (b :: r) = 1 := by
        rw [kindL, if_pos hl] at h ⊢
        split at h
        · rename_i h1; rw [if_pos h1]
        · exact absurd rfl h
      have hlen : (r.takeWhile isWly).length < 16 := by
        rw [kindL, if_pos hl] at h
        split at h
        · assumption
        · exact absurd rfl h
      have ht : (b :: r).take (tlen (b :: r)) = b :: r.takeWhile isWly := by rw [tlen, if_pos hl, Nat.add_comm, List.take_succ_cons, take_while]
      have hw : wordL (b :: r.takeWhile isWly) = true := by rw [wordL, hl, all_while]; rfl
      rw [ht, hk]
      exact ⟨tg_word hw (by simp; omega), fun _ => hw, .inl rfl, hp⟩
    · by_cases hd : isDig b = true
      · have hb := dig_facts b hd
        have hk : kindL (b :: r) = 2 := by
          rw [kindL, if_neg hl, if_pos hd] at h ⊢
          split at h
          · rename_i h1; rw [if_pos h1]
          · exact absurd rfl h
        have hn : numOK (ofL (b :: r.takeWhile isDig)) = true := by
          rw [kindL, if_neg hl, if_pos hd] at h
          split at h
          · assumption
          · exact absurd rfl h
        have ht : (b :: r).take (tlen (b :: r)) = b :: r.takeWhile isDig := by rw [tlen, if_neg hl, if_pos hd, Nat.add_comm, List.take_succ_cons, take_while]
        rw [ht, hk]
        refine ⟨⟨by decide, ⟨b, _, rfl, ?_, hb.2.2.2.2.2.1⟩, fun R => ?_, fun R => ?_⟩, fun h => absurd h (by decide), .inr (.inl rfl), hp⟩
        · rintro (h1 | h1 | h1)
          · exact hb.2.2.2.2.2.2.1 h1
          · exact hb.2.2.2.2.2.2.2.1 h1
          · exact hb.2.2.2.2.2.2.2.2 h1
        · rw [List.cons_append, kindL, if_neg hl, if_pos hd, while_app isDig (by decide) _ R (all_while isDig r), if_pos hn]
        · rw [List.cons_append, tlen, if_neg hl, if_pos hd, while_app isDig (by decide) _ R (all_while isDig r), List.length_cons]; omega
      · have hk : kindL (b :: r) = 3 := by
          rw [kindL, if_neg hl, if_neg hd] at h ⊢
          split at h
          · exact absurd rfl h
          · rename_i h1; rw [if_neg h1]
        have one : isSgn b = true → TG [b] 3 := fun hs => by
          have hf := sgn_facts b (.inl hs)
          have ht : ∀ R, tlen ([b] ++ 32 :: R) = 1 := fun R => by rw [List.cons_append, tlen, if_neg hl, if_neg hd, List.nil_append, sgnLen, two_32, if_neg (by simp), if_pos hs]
          refine ⟨by decide, ⟨b, [], rfl, hf.1, hf.2⟩, fun R => ?_, ht⟩
          have := ht R
          rw [List.cons_append] at this ⊢
          rw [kindL, if_neg hl, if_neg hd, this]; rfl
        have htl : tlen (b :: r) = sgnLen b r := by rw [tlen, if_neg hl, if_neg hd]
        rw [hk]
        rw [htl] at hp ⊢
        refine ⟨?_, fun h => absurd h (by decide), .inr (.inr rfl), hp⟩
        cases r with
        | nil =>
          rw [sgnLen] at hp ⊢
          split at hp
          · rename_i hs; rw [if_pos hs]; exact one hs
          · omega
        | cons c r =>
          rw [sgnLen] at hp ⊢
          by_cases h2 : twoL [b, c] = true
          · rw [if_pos h2]
            have hf := sgn_facts b (twoL_first h2)
            have ht : ∀ R, tlen ([b, c] ++ 32 :: R) = 2 := fun R => by rw [List.cons_append, tlen, if_neg hl, if_neg hd, List.cons_append, sgnLen, if_pos h2]
            refine ⟨by decide, ⟨b, [c], rfl, hf.1, hf.2⟩, fun R => ?_, ht⟩
            have := ht R
            rw [List.cons_append] at this
            show kindL (b :: ([c] ++ 32 :: R)) = 3
            rw [kindL, if_neg hl, if_neg hd, this]; rfl
          · rw [if_neg h2] at hp ⊢
            split at hp
            · rename_i hs; rw [if_pos hs]; exact one hs
            · omega
def joinL : List (List UInt8) → List UInt8
  | [] => [32]
  | t :: l => t ++ 32 :: joinL l
def toksL : List (List UInt8 × Int) → Nat → List Tok
  | [], p => [⟨4, ByteArray.empty, (p + 1 : Nat)⟩]
  | t :: l, p => ⟨t.2, ofL t.1, (p : Nat)⟩ :: toksL l (p + (t.1.length + 1))
theorem lex_join : ∀ (ts : List (List UInt8 × Int)) (f p : Nat), (∀ t ∈ ts, TG t.1 t.2) → (joinL (ts.map (·.1))).length < f → lexR f (joinL (ts.map (·.1))) p = (toksL ts p, 0, 0)
  | [], f, p, h, hf => by
    simp only [List.map_nil, joinL, List.length_cons, List.length_nil] at hf
    obtain ⟨g, rfl⟩ : ∃ g, f = g + 2 := ⟨f - 2, by omega⟩
    rw [List.map_nil, joinL, lexR, if_pos (by decide), lexR]; rfl
  | t :: ts, f, p, h, hf => by
    obtain ⟨b, r, hb, hs, h35⟩ := (h t (List.mem_cons_self ..)).ne
    have hg := h t (List.mem_cons_self ..)
    rw [List.map_cons, joinL] at hf ⊢
    have hl : (t.1 ++ 32 :: joinL (ts.map (·.1))).length = t.1.length + 1 + (joinL (ts.map (·.1))).length := by simp; omega
    have hl1 : t.1.length = r.length + 1 := by rw [hb]; rfl
    obtain ⟨g, rfl⟩ : ∃ g, f = g + 2 := ⟨f - 2, by omega⟩
    have hk := hg.kd (joinL (ts.map (·.1)))
    have ht := hg.tl (joinL (ts.map (·.1)))
    have hcons : t.1 ++ 32 :: joinL (ts.map (·.1)) = b :: (r ++ 32 :: joinL (ts.map (·.1))) := by rw [hb]; rfl
    have step : lexR (g + 2) (t.1 ++ 32 :: joinL (ts.map (·.1))) p = consT ⟨t.2, ofL t.1, (p : Nat)⟩ (lexR (g + 1) (32 :: joinL (ts.map (·.1))) (p + t.1.length)) := by
      rw [hcons, lexR, if_neg (show ¬ (b.toNat = 32 ∨ b.toNat = 9 ∨ b.toNat = 10) from hs), if_neg h35, ← hcons, hk, if_neg hg.k0, ht, List.take_left, List.drop_left]
    rw [step, lexR, if_pos (by decide), lex_join ts g _ (fun x hx => h x (List.mem_cons_of_mem _ hx)) (by omega)]
    rw [toksL, consT, if_pos rfl]
    simp only [Nat.add_assoc]
theorem lexR_toks : ∀ (f : Nat) (r : List UInt8) (p : Nat), r.length < f → (lexR f r p).2.1 = 0 → ∃ ts e, (lexR f r p).1 = ts ++ [⟨4, ByteArray.empty, e⟩] ∧ ∀ t ∈ ts, TG (L t.s) t.k ∧ (t.k = 1 → wordL (L t.s) = true) ∧ (t.k = 1 ∨ t.k = 2 ∨ t.k = 3)
  | 0, r, p, h, _ => by omega
  | f + 1, [], p, h, _ => ⟨[], p, rfl, fun t ht => by cases ht⟩
  | f + 1, b :: r, p, h, h0 => by
    simp only [List.length_cons] at h
    rw [lexR] at h0 ⊢
    by_cases hs : b.toNat = 32 ∨ b.toNat = 9 ∨ b.toNat = 10
    · rw [if_pos hs] at h0 ⊢
      exact lexR_toks f r (p + 1) (by omega) h0
    rw [if_neg hs] at h0 ⊢
    by_cases h35 : b.toNat = 35
    · rw [if_pos h35] at h0 ⊢
      have hn : 0 < nlen (b :: r) := by
        rw [nlen, List.takeWhile_cons, if_pos (by simp [h35])]; simp
      exact lexR_toks f _ _ (by rw [List.length_drop, List.length_cons]; omega) h0
    rw [if_neg h35] at h0 ⊢
    by_cases hk : kindL (b :: r) = 0
    · rw [if_pos hk] at h0; cases h0
    rw [if_neg hk] at h0 ⊢
    obtain ⟨h1, h2, h3, h4⟩ := tg_of hk
    have h5 : (lexR f ((b :: r).drop (tlen (b :: r))) (p + tlen (b :: r))).2.1 = 0 := by
      unfold consT at h0
      split at h0
      · assumption
      · exact h0
    obtain ⟨ts, e, g1, g2⟩ := lexR_toks f _ _ (by rw [List.length_drop, List.length_cons]; omega) h5
    refine ⟨⟨kindL (b :: r), ofL ((b :: r).take (tlen (b :: r))), p⟩ :: ts, e, ?_, fun t ht => ?_⟩
    · rw [consT, if_pos h5, g1]; rfl
    · rcases List.mem_cons.1 ht with ht | ht
      · rw [ht]; exact ⟨h1, h2, h3⟩
      · exact g2 t ht
end Go.Proofs.Ytphjldhdnmoolaa.A
/- The walks of some functions over the abstract machine. -/
namespace Go.Proofs.Ytphjldhdnmoolaa.A
open Go
/-! names with others in their place: the parser -/
structure PH (φ : Bytes → Bytes) : Prop where
  id : ∀ s, kw s = true → φ s = s
  e : φ ByteArray.empty = ByteArray.empty
  w : ∀ s, wordL (L s) = true → kw s = false → wordL (L (φ s)) = true ∧ kw (φ s) = false
  k : ∀ s q, kw q = true → (φ s = q ↔ s = q)
  inj : ∀ a b, φ a = φ b ↔ a = b
structure LR (φ : Bytes → Bytes) (l l' : List Tok) : Prop where
  len : l'.length = l.length
  k : ∀ p, (tk l' p).k = (tk l p).k
  s : ∀ p, (tk l' p).s = if (tk l p).k = 1 then φ (tk l p).s else (tk l p).s
  w : ∀ p, (tk l p).k = 1 → wordL (L (tk l p).s) = true
/-- What grammar asks for by its text. -/
def Fix (q : Bytes) : Prop := kw q = true ∨ wordL (L q) = false
mutual
def nE (φ : Bytes → Bytes) : Expr → Expr
  | .mk k n s a _ => .mk k n (if k = 2 then φ s else s) (nEs φ a) 0
def nEs (φ : Bytes → Bytes) : List Expr → List Expr
  | [] => []
  | e :: l => nE φ e :: nEs φ l
end
mutual
def nT (φ : Bytes → Bytes) : Stmt → Stmt
  | .mk k s x n b e _ => .mk k (if k = 1 ∨ k = 7 ∨ k = 8 then φ s else s) (nEs φ x) n (nTs φ b) (nTs φ e) 0
def nTs (φ : Bytes → Bytes) : List Stmt → List Stmt
  | [] => []
  | s :: l => nT φ s :: nTs φ l
end
def nD (φ : Bytes → Bytes) (d : Def) : Def := ⟨ByteArray.empty, d.params.map φ, nEs φ d.needs, nTs φ d.body, nEs φ d.give⟩
theorem nEs_app (φ : Bytes → Bytes) : ∀ a b : List Expr, nEs φ (a ++ b) = nEs φ a ++ nEs φ b
  | [], b => rfl
  | e :: a, b => by rw [List.cons_append, nEs, nEs, nEs_app φ a b]; rfl
theorem nTs_app (φ : Bytes → Bytes) : ∀ a b : List Stmt, nTs φ (a ++ b) = nTs φ a ++ nTs φ b
  | [], b => rfl
  | e :: a, b => by rw [List.cons_append, nTs, nTs, nTs_app φ a b]; rfl
section
variable {φ : Bytes → Bytes} (hφ : PH φ) {l l' : List Tok} (h : LR φ l l')
include hφ h
theorem is_nm {q : Bytes} (hq : Fix q) (p : Int) : isP l' p q = isP l p q := by
  unfold isP
  rw [h.k]
  congr 2
  rw [decide_eq_decide, h.s]
  by_cases k1 : (tk l p).k = 1
  · rw [if_pos k1]
    have hw := h.w p k1
    rcases hq with hq | hq
    · exact hφ.k _ _ hq
    · constructor
      · intro e
        cases hk : kw (tk l p).s with
        | true => rw [hφ.id _ hk] at e; rw [e, hq] at hw; cases hw
        | false => have := (hφ.w _ hw hk).1; rw [e, hq] at this; cases this
      · intro e; rw [e, hq] at hw; cases hw
  · rw [if_neg k1]
theorem eat_nm {q : Bytes} (hq : Fix q) (p : Int) : eatP l' p q = eatP l p q := by unfold eatP; rw [is_nm hφ h hq]
theorem word_nm (p : Int) : (wordP l' p).2 = (wordP l p).2 ∧ (wordP l' p).1 = φ (wordP l p).1 := by
  unfold wordP
  by_cases hp : p < 0
  · rw [if_pos hp, if_pos hp]; exact ⟨rfl, hφ.e.symm⟩
  rw [if_neg hp, if_neg hp, h.k, h.s]
  by_cases k1 : (tk l p).k = 1
  · rw [if_pos k1]
    cases hk : kw (tk l p).s with
    | true => rw [hφ.id _ hk, if_pos (.inr hk), if_pos (.inr rfl)]; exact ⟨rfl, hφ.e.symm⟩
    | false =>
      have := (hφ.w _ (h.w p k1) hk).2
      rw [if_neg (fun x => by rcases x with x | x; exact x k1; rw [this] at x; cases x), if_neg (fun x => by rcases x with x | x; exact x k1; cases x)]
      exact ⟨rfl, rfl⟩
  · rw [if_pos (.inl k1), if_pos (.inl k1)]; exact ⟨rfl, hφ.e.symm⟩
omit hφ in
theorem num_nm (p : Int) : numP l' p = numP l p := by
  unfold numP
  by_cases hp : p < 0
  · rw [if_pos hp, if_pos hp]
  rw [if_neg hp, if_neg hp, h.k]
  by_cases k2 : (tk l p).k = 2
  · rw [if_neg (fun x => x k2), if_neg (fun x => x k2), h.s, if_neg (by omega)]
  · rw [if_pos k2, if_pos k2]
omit hφ in
theorem sg_nm {p : Int} (k3 : ¬ (tk l p).k = 1) : (tk l' p).s = (tk l p).s := by rw [h.s, if_neg k3]
def EqX (φ : Bytes → Bytes) (x y : Expr × Int) : Prop := nE φ x.1 = nE id y.1 ∧ x.2 = y.2
theorem eq_is {q : Bytes} (hq : kw q = true) (p : Int) : decide ((tk l' p).s = q) = decide ((tk l p).s = q) := by
  rw [decide_eq_decide, h.s]
  split
  · exact hφ.k _ _ hq
  · rfl
theorem expr_nm : ∀ f : Nat, (∀ p least depth, EqX φ (exprF l f p least depth) (exprF l' f p least depth)) ∧
    (∀ left left' p most least depth, nE φ left = nE id left' → EqX φ (loopF l f left p most least depth) (loopF l' f left' p most least depth)) ∧
    (∀ p depth, EqX φ (smallF l f p depth) (smallF l' f p depth)) ∧ (∀ p depth a b, Fix a → Fix b → EqX φ (aroundF l f p depth a b) (aroundF l' f p depth a b)) := by
  have e0 : nE φ E0 = nE id E0 := by rw [nE, nE]; rfl
  intro f
  induction f with
  | zero => exact ⟨fun _ _ _ => ⟨e0, rfl⟩, fun _ _ _ _ _ _ _ => ⟨e0, rfl⟩, fun _ _ => ⟨e0, rfl⟩, fun _ _ _ _ _ _ => ⟨e0, rfl⟩⟩
  | succ f ih =>
    obtain ⟨ih1, ih2, ih3, ih4⟩ := ih
    have fNot : Fix qNot := .inr (by decide)
    have fSub : Fix qSub := .inr (by decide)
    have fLB : Fix qLB := .inr (by decide)
    have fRB : Fix qRB := .inr (by decide)
    have fLP : Fix qLP := .inr (by decide)
    have fRP : Fix qRP := .inr (by decide)
    have fT : Fix qTrue := .inl (by decide)
    have fF : Fix qFalse := .inl (by decide)
    refine ⟨fun p least depth => ?_, fun left left' p most least depth hl => ?_, fun p depth => ?_, fun p depth a b ha hb => ?_⟩
    · rw [exprF, exprF]
      have h3 := ih3 p depth
      rw [← h3.2]
      exact ih2 _ _ _ _ _ _ h3.1
    · rw [loopF, loopF, h.k]
      by_cases c1 : 0 ≤ p ∧ (tk l p).k = 3
      · rw [if_pos c1, if_pos c1]
        have hs := sg_nm h (p := p) (by omega)
        rw [hs]
        by_cases c2 : level (tk l p).s < least ∨ most < level (tk l p).s ∨ level (tk l p).s = 0
        · rw [if_pos c2, if_pos c2]; exact ⟨hl, rfl⟩
        · rw [if_neg c2, if_neg c2]
          have h1 := ih1 (p + 1) (level (tk l p).s + 1) depth
          rw [← h1.2]
          refine ih2 _ _ _ _ _ _ ?_
          rw [nE, nE, nEs, nEs, nEs, nEs, nEs, nEs, hl, h1.1]; rfl
      · rw [if_neg c1, if_neg c1]; exact ⟨hl, rfl⟩
    · rw [smallF, smallF]
      by_cases hp : p < 0
      · rw [if_pos hp, if_pos hp]; exact ⟨e0, rfl⟩
      rw [if_neg hp, if_neg hp, is_nm hφ h fNot, is_nm hφ h fSub, is_nm hφ h fLB, is_nm hφ h fLP, is_nm hφ h fT, is_nm hφ h fF, h.k, num_nm h]
      by_cases c1 : (isP l p qNot || isP l p qSub) = true
      · rw [if_pos c1, if_pos c1]
        split
        · exact ⟨by rw [nE, nE]; rfl, rfl⟩
        · have h3 := ih3 (p + 1) (depth + 1)
          have hsub : ((tk l' p).s = qSub) ↔ ((tk l p).s = qSub) := by
            have h1 := is_nm hφ h fSub p
            have h2 := is_nm hφ h fNot p
            unfold isP at h1
            rw [h.k] at h1
            simp only [Bool.or_eq_true] at c1
            have hk4 : ¬ (tk l p).k = 4 := by
              intro e
              unfold isP at c1
              simp [e] at c1
            have hp0 : 0 ≤ p := by omega
            simpa [hk4, hp0] using h1
          simp only [hsub]
          refine ⟨?_, h3.2⟩
          dsimp only
          rw [nE, nE, nEs, nEs, nEs, nEs, h3.1]
          split <;> rfl
      rw [if_neg c1, if_neg c1]
      by_cases c2 : isP l p qLB = true
      · rw [if_pos c2, if_pos c2]
        have h4 := ih4 p depth qLB qRB fLB fRB
        refine ⟨?_, h4.2⟩
        dsimp only
        rw [nE, nE, nEs, nEs, nEs, nEs, h4.1]; rfl
      rw [if_neg c2, if_neg c2]
      by_cases c3 : isP l p qLP = true
      · rw [if_pos c3, if_pos c3]; exact ih4 p depth qLP qRP fLP fRP
      rw [if_neg c3, if_neg c3]
      by_cases c4 : (tk l p).k = 2
      · rw [if_pos c4, if_pos c4]; exact ⟨by rw [nE, nE]; rfl, rfl⟩
      rw [if_neg c4, if_neg c4]
      by_cases c5 : (isP l p qTrue || isP l p qFalse) = true
      · rw [if_pos c5, if_pos c5]
        refine ⟨?_, rfl⟩
        dsimp only
        rw [nE, nE, if_pos rfl, if_pos rfl]
        have hs : φ (tk l p).s = (tk l' p).s := by
          have hkw : kw (tk l p).s = true := by
            simp only [Bool.or_eq_true] at c5
            unfold isP at c5
            simp only [Bool.and_eq_true, decide_eq_true_eq] at c5
            rcases c5 with c | c
            · rw [c.2.2]; decide
            · rw [c.2.2]; decide
          rw [h.s, hφ.id _ hkw]
          split <;> rfl
        rw [hs]; rfl
      · rw [if_neg c5, if_neg c5]
        have hw := word_nm hφ h p
        refine ⟨?_, hw.1.symm⟩
        dsimp only
        rw [nE, nE, if_pos rfl, if_pos rfl, hw.2]; rfl
    · rw [aroundF, aroundF, is_nm hφ h ha, eat_nm hφ h ha]
      split
      · exact ⟨e0, rfl⟩
      · have h1 := ih1 (eatP l p a) 1 (depth + 1)
        refine ⟨h1.1, ?_⟩
        dsimp only
        rw [eat_nm hφ h hb, h1.2]
theorem expr1_nm (p least depth : Int) : EqX φ (expr l p least depth) (expr l' p least depth) := by
  unfold expr fuelE; rw [h.len]; exact (expr_nm hφ h _).1 p least depth
theorem around1_nm (p depth : Int) {a b : Bytes} (ha : Fix a) (hb : Fix b) : EqX φ (around l p depth a b) (around l' p depth a b) := by
  unfold around fuelE; rw [h.len]; exact (expr_nm hφ h _).2.2.2 p depth a b ha hb
end
end Go.Proofs.Ytphjldhdnmoolaa.A
/- The walks of some functions over the abstract machine. -/
namespace Go.Proofs.Ytphjldhdnmoolaa.A
open Go
/-! names with others in their place: statements, definitions -/
set_option linter.unusedSectionVars false
def EqS (φ : Bytes → Bytes) (x y : Stmt × Int) : Prop := nT φ x.1 = nT id y.1 ∧ x.2 = y.2
def EqB (φ : Bytes → Bytes) (x y : List Stmt × Int) : Prop := nTs φ x.1 = nTs id y.1 ∧ x.2 = y.2
theorem nEs_one {φ : Bytes → Bytes} {a b : Expr} (h : nE φ a = nE id b) : nEs φ [a] = nEs id [b] := by rw [nEs, nEs, nEs, nEs, h]
theorem nEs_two {φ : Bytes → Bytes} {a b c d : Expr} (h : nE φ a = nE id b) (g : nE φ c = nE id d) : nEs φ [a, c] = nEs id [b, d] := by rw [nEs, nEs, nEs, nEs, nEs, nEs, h, g]
theorem nT_eq {φ : Bytes → Bytes} {k : Int} {s s' : Bytes} {x x' : List Expr} {n : Int} {b b' e e' : List Stmt} {p p' : Int} (hs : (if k = 1 ∨ k = 7 ∨ k = 8 then φ s else s) = s') (hx : nEs φ x = nEs id x') (hb : nTs φ b = nTs id b') (he : nTs φ e = nTs id e') : nT φ (.mk k s x n b e p) = nT id (.mk k s' x' n b' e' p') := by
  rw [nT, nT, hs, hx, hb, he]; simp
theorem nTs_nil (φ : Bytes → Bytes) : nTs φ [] = nTs id [] := by rw [nTs, nTs]
theorem nEs_nil (φ : Bytes → Bytes) : nEs φ [] = nEs id [] := by rw [nEs, nEs]
section
variable {φ : Bytes → Bytes} (hφ : PH φ) {l l' : List Tok} (h : LR φ l l')
include hφ h
theorem cell_nm (p depth : Int) : EqS φ (cellS l p depth) (cellS l' p depth) := by
  have fLB : Fix qLB := .inr (by decide)
  have fRB : Fix qRB := .inr (by decide)
  have fSw : Fix qSwap := .inr (by decide)
  have fSe : Fix qSet := .inr (by decide)
  have fA : Fix qAddS := .inr (by decide)
  have fS : Fix qSubS := .inr (by decide)
  have fSm : Fix qSemi := .inr (by decide)
  have hl := around1_nm hφ h p depth fLB fRB
  unfold cellS
  dsimp only
  rw [← hl.2, is_nm hφ h fSw, is_nm hφ h fSe, is_nm hφ h fA, is_nm hφ h fS]
  have hr := around1_nm hφ h ((around l p depth qLB qRB).2 + 1) depth fLB fRB
  have hx := expr1_nm hφ h ((around l p depth qLB qRB).2 + 1) 1 depth
  split
  · refine ⟨nT_eq (by rw [if_neg (by decide)]) (nEs_two hl.1 hr.1) (nTs_nil φ) (nTs_nil φ), ?_⟩
    dsimp only
    unfold swapEnd
    rw [← hr.2, is_nm hφ h fLB, eat_nm hφ h fSm]
  · split
    · refine ⟨nT_eq ?_ (nEs_two hl.1 hx.1) (nTs_nil φ) (nTs_nil φ), ?_⟩
      · rw [if_neg]; split
        · decide
        · split <;> decide
      · dsimp only
        rw [← hx.2, eat_nm hφ h fSm]
    · exact ⟨nT_eq (by rw [if_neg (by decide)]) (nEs_nil φ) (nTs_nil φ) (nTs_nil φ), rfl⟩
theorem stmt_nm : ∀ f : Nat, (∀ p depth, EqS φ (stmtF l f p depth) (stmtF l' f p depth)) ∧ (∀ p depth, EqB φ (blockF l f p depth) (blockF l' f p depth)) ∧ (∀ acc acc' p depth, nTs φ acc = nTs id acc' → EqB φ (loopB l f acc p depth) (loopB l' f acc' p depth)) := by
  have s0 : nT φ S0 = nT id S0 := nT_eq (by rw [if_neg (by decide)]) (nEs_nil φ) (nTs_nil φ) (nTs_nil φ)
  intro f
  induction f with
  | zero => exact ⟨fun _ _ => ⟨s0, rfl⟩, fun _ _ => ⟨nTs_nil φ, rfl⟩, fun _ _ _ _ _ => ⟨nTs_nil φ, rfl⟩⟩
  | succ f ih =>
    obtain ⟨ih1, ih2, ih3⟩ := ih
    have fLB : Fix qLB := .inr (by decide)
    have fLet : Fix qLet := .inl (by decide)
    have fIf : Fix qIf := .inl (by decide)
    have fEl : Fix qElse := .inl (by decide)
    have fFor : Fix qFor := .inl (by decide)
    have fIn : Fix qIn := .inl (by decide)
    have fZ : Fix qZero := .inr (by decide)
    have fDo : Fix qDots := .inr (by decide)
    have fSe : Fix qSet := .inr (by decide)
    have fSm : Fix qSemi := .inr (by decide)
    have fLC : Fix qLC := .inr (by decide)
    have fRC : Fix qRC := .inr (by decide)
    refine ⟨fun p depth => ?_, fun p depth => ?_, fun acc acc' p depth ha => ?_⟩
    · rw [stmtF, stmtF, is_nm hφ h fLB, is_nm hφ h fLet, is_nm hφ h fIf, is_nm hφ h fFor]
      split
      · exact cell_nm hφ h p depth
      split
      · have hw := word_nm hφ h (p + 1)
        rw [hw.1, eat_nm hφ h fSe]
        have hx := expr1_nm hφ h (eatP l (wordP l (p + 1)).2 qSet) 1 depth
        refine ⟨nT_eq (by rw [if_pos (.inl rfl), hw.2]) (nEs_one hx.1) (nTs_nil φ) (nTs_nil φ), ?_⟩
        dsimp only
        rw [← hx.2, eat_nm hφ h fSm]
      split
      · have hx := expr1_nm hφ h (p + 1) 1 depth
        rw [← hx.2]
        have hb := ih2 (expr l (p + 1) 1 depth).2 depth
        rw [← hb.2, is_nm hφ h fEl]
        split
        · have he := ih2 ((blockF l f (expr l (p + 1) 1 depth).2 depth).2 + 1) depth
          refine ⟨nT_eq (by rw [if_neg (by decide)]) (nEs_one hx.1) hb.1 he.1, he.2⟩
        · exact ⟨nT_eq (by rw [if_neg (by decide)]) (nEs_one hx.1) hb.1 (nTs_nil φ), rfl⟩
      split
      · have hw := word_nm hφ h (p + 1)
        rw [hw.1, eat_nm hφ h fIn, eat_nm hφ h fZ, eat_nm hφ h fDo, num_nm h]
        have hb := ih2 (numP l (eatP l (eatP l (eatP l (wordP l (p + 1)).2 qIn) qZero) qDots)).2 depth
        refine ⟨nT_eq (by rw [if_pos (.inr (.inl rfl)), hw.2]) (nEs_nil φ) hb.1 (nTs_nil φ), hb.2⟩
      · exact ⟨nT_eq (by rw [if_neg (by decide)]) (nEs_nil φ) (nTs_nil φ) (nTs_nil φ), rfl⟩
    · rw [blockF, blockF, is_nm hφ h fLC, eat_nm hφ h fLC]
      split
      · exact ⟨nTs_nil φ, rfl⟩
      · exact ih3 _ _ _ _ (nTs_nil φ)
    · rw [loopB, loopB, is_nm hφ h fRC, eat_nm hφ h fRC]
      split
      · have hs := ih1 p (depth + 1)
        rw [← hs.2]
        refine ih3 _ _ _ _ ?_
        rw [nTs_app, nTs_app, ha, nTs, nTs, nTs, nTs, hs.1]
      · exact ⟨ha, rfl⟩
theorem stmt1_nm (p depth : Int) : EqS φ (stmt l p depth) (stmt l' p depth) := by
  unfold stmt fuelS; rw [h.len]; exact (stmt_nm hφ h _).1 p depth
theorem loopP_nm : ∀ (f : Nat) (acc acc' : List Bytes) (p : Int) (first : Bool), acc' = acc.map φ → (loopP l' f acc' p first).1 = (loopP l f acc p first).1.map φ ∧ (loopP l' f acc' p first).2 = (loopP l f acc p first).2
  | 0, acc, acc', p, first, ha => ⟨rfl, rfl⟩
  | f + 1, acc, acc', p, first, ha => by
    have fRP : Fix qRP := .inr (by decide)
    have fC : Fix qComma := .inr (by decide)
    have hw := word_nm hφ h p
    rw [loopP, loopP, is_nm hφ h fRP, hw.1, is_nm hφ h fC, hw.2]
    split
    · split
      · exact loopP_nm f _ _ _ _ (by rw [ha]; simp)
      · exact ⟨by dsimp only; rw [ha]; simp, rfl⟩
    · exact ⟨ha, rfl⟩
theorem loopN_nm : ∀ (f : Nat) (acc acc' : List Expr) (p : Int), nEs φ acc = nEs id acc' → nEs φ (loopN l f acc p).1 = nEs id (loopN l' f acc' p).1 ∧ (loopN l f acc p).2 = (loopN l' f acc' p).2
  | 0, acc, acc', p, ha => ⟨nEs_nil φ, rfl⟩
  | f + 1, acc, acc', p, ha => by
    have fN : Fix qNeed := .inl (by decide)
    have fSm : Fix qSemi := .inr (by decide)
    have hx := expr1_nm hφ h (p + 1) 1 1
    rw [loopN, loopN, is_nm hφ h fN, ← hx.2, eat_nm hφ h fSm]
    split
    · refine loopN_nm f _ _ _ ?_
      rw [nEs_app, nEs_app, ha, nEs_one hx.1]
    · exact ⟨ha, rfl⟩
theorem loopD_nm : ∀ (f : Nat) (acc acc' : List Stmt) (p : Int), nTs φ acc = nTs id acc' → nTs φ (loopD l f acc p).1 = nTs id (loopD l' f acc' p).1 ∧ (loopD l f acc p).2 = (loopD l' f acc' p).2
  | 0, acc, acc', p, ha => ⟨nTs_nil φ, rfl⟩
  | f + 1, acc, acc', p, ha => by
    have fG : Fix qGive := .inl (by decide)
    have fRC : Fix qRC := .inr (by decide)
    have hs := stmt1_nm hφ h p 1
    rw [loopD, loopD, is_nm hφ h fG, is_nm hφ h fRC, ← hs.2]
    split
    · refine loopD_nm f _ _ _ ?_
      rw [nTs_app, nTs_app, ha, nTs, nTs, nTs, nTs, hs.1]
    · exact ⟨ha, rfl⟩
theorem defP_nm : nD φ (defP l).1 = nD id (defP l').1 ∧ (defP l).2 = (defP l').2 := by
  have fOp : Fix qOp := .inl (by decide)
  have fLP : Fix qLP := .inr (by decide)
  have fRP : Fix qRP := .inr (by decide)
  have fLC : Fix qLC := .inr (by decide)
  have fRC : Fix qRC := .inr (by decide)
  have fG : Fix qGive := .inl (by decide)
  have fSm : Fix qSemi := .inr (by decide)
  unfold defP
  dsimp only
  rw [h.len, eat_nm hφ h fOp, (word_nm hφ h _).1, eat_nm hφ h fLP]
  have hp := loopP_nm hφ h (l.length + 2) [] [] (eatP l (wordP l (eatP l 0 qOp)).2 qLP) true rfl
  rw [hp.2, eat_nm hφ h fRP, eat_nm hφ h fLC]
  have hn := loopN_nm hφ h (l.length + 2) [] [] (eatP l (eatP l (loopP l (l.length + 2) [] (eatP l (wordP l (eatP l 0 qOp)).2 qLP) true).2 qRP) qLC) (nEs_nil φ)
  rw [← hn.2]
  have hb := loopD_nm hφ h (l.length + 2) [] [] (loopN l (l.length + 2) [] (eatP l (eatP l (loopP l (l.length + 2) [] (eatP l (wordP l (eatP l 0 qOp)).2 qLP) true).2 qRP) qLC)).2 (nTs_nil φ)
  rw [← hb.2, is_nm hφ h fG]
  split
  · have hg := expr1_nm hφ h ((loopD l (l.length + 2) [] (loopN l (l.length + 2) [] (eatP l (eatP l (loopP l (l.length + 2) [] (eatP l (wordP l (eatP l 0 qOp)).2 qLP) true).2 qRP) qLC)).2).2 + 1) 1 1
    rw [← hg.2, eat_nm hφ h fSm, eat_nm hφ h fRC]
    refine ⟨?_, rfl⟩
    unfold nD
    dsimp only
    rw [hp.1, hn.1, hb.1, nEs_one hg.1]; simp
  · rw [eat_nm hφ h fRC]
    refine ⟨?_, rfl⟩
    unfold nD
    dsimp only
    rw [hp.1, hn.1, hb.1, nEs_nil φ]; simp
theorem fix_nm (p : Int) : fixP l' p = fixP l p := by unfold fixP; rw [h.k]
end
end Go.Proofs.Ytphjldhdnmoolaa.A
/- The walks of some functions over the abstract machine. -/
namespace Go.Proofs.Ytphjldhdnmoolaa.A
open Go
/-! ref08: sizes, reads, has -/
mutual
def sizeE : Expr → Int
  | .mk _ _ _ a _ => 1 + sizeEs a
def sizeEs : List Expr → Int
  | [] => 0
  | e :: l => sizeE e + sizeEs l
end
mutual
theorem sizeE_bd : ∀ e : Expr, 0 < sizeE e ∧ sizeE e ≤ szE e
  | .mk k n s a p => by have := sizeEs_bd a; simp only [sizeE, szE]; omega
theorem sizeEs_bd : ∀ l : List Expr, 0 ≤ sizeEs l ∧ sizeEs l ≤ szs l
  | [] => by simp [sizeEs, szs]
  | e :: l => by have := sizeE_bd e; have := sizeEs_bd l; simp only [sizeEs, szs]; omega
end
theorem sizeE_eq (e : Expr) : sizeE e = 1 + sizeEs e.a := by cases e; rfl
set_option maxRecDepth 100000 in
set_option maxHeartbeats 4000000 in
theorem size_sim (m : Mem) : ∀ (N : Nat), N < 900000 → ∀ (e : Expr), szE e ≤ N → Sim 51 [.agg (encE e)] m (fun r m' => r = ii (sizeE e) ∧ m' = m) := by
  intro N
  induction N using Nat.strongRecOn with
  | ind N ih =>
  intro hB e hN
  have hsz := szE_eq e
  have hll := szs_len e.a
  refine Sim.ofS 21 [.tmp 2] Try.func51 rfl rfl rfl (by simp) fun wr => ?_
  simp only [go_sem, Nat.reduceEqDiff, Nat.reduceBEq, Int.reduceToNat, Int.reduceLT, Int.reduceLE, Int.reduceEq, Nat.reduceLeDiff, Nat.reduceLT, Nat.reduceMul, Nat.reduceAdd, String.reduceEq]
  refine TS.seq (TS.of [1] fun Q hQ => ?_)
  simp only [go_sem, Nat.reduceEqDiff, Nat.reduceBEq, Int.reduceToNat, Int.reduceLT, Int.reduceLE, Int.reduceEq, Nat.reduceLeDiff, Nat.reduceLT, Nat.reduceMul, Nat.reduceAdd, String.reduceEq, encE_eq]
  refine hQ .normal _ ?_; clear hQ Q
  refine TS.seq (TS.of [] fun Q hQ => ?_)
  simp only [go_sem, Nat.reduceEqDiff, Nat.reduceBEq, Int.reduceToNat, Int.reduceLT, Int.reduceLE, Int.reduceEq, Nat.reduceLeDiff, Nat.reduceLT, Nat.reduceMul, Nat.reduceAdd, String.reduceEq]
  refine hQ .normal _ ?_; clear hQ Q
  refine TS.seq (TS.seq (TS.of [] fun Q hQ => ?_))
  simp only [go_sem, Nat.reduceEqDiff, Nat.reduceBEq, Int.reduceToNat, Int.reduceLT, Int.reduceLE, Int.reduceEq, Nat.reduceLeDiff, Nat.reduceLT, Nat.reduceMul, Nat.reduceAdd, String.reduceEq]
  refine hQ .normal _ ?_; clear hQ Q
  refine TS.block (TS.loop (α := Nat × Int) (fun x => [(1, .ref (encE e)), (3, ii x.2), (4, ii x.1)]) (fun _ => m) (fun x => x.1 ≤ e.a.length ∧ 0 ≤ x.2 ∧ x.2 + sizeEs (e.a.drop x.1) = 1 + sizeEs e.a) (fun x => e.a.length - x.1) (0, 1) (by simp) ⟨by simp [Has, upd_apply, argsT, encE_eq], rfl, by simp⟩ ?_)
  rintro ⟨k, n⟩ st hH hm ⟨hk, hn0, hc⟩
  dsimp only at hH hm hk hn0 hc
  simp only [Has, List.mem_cons, List.not_mem_nil, or_false, forall_eq_or_imp, forall_eq] at hH; obtain ⟨i1, i3, i4⟩ := hH
  have hbd := sizeEs_bd e.a
  by_cases hlt : k < e.a.length
  · obtain ⟨x, hx⟩ : ∃ x, e.a[k]? = some x := ⟨_, List.getElem?_eq_getElem hlt⟩
    have hdr : e.a.drop k = x :: e.a.drop (k + 1) := by rw [List.drop_eq_getElem_cons hlt]; congr 1; exact Option.some.inj ((List.getElem?_eq_getElem hlt).symm.trans hx)
    have hat := encEs_at hx
    have hlt5 : k * 5 < (encEs e.a).length := by rw [encEs_length]; omega
    have hw := wrap_succ hlt (by omega)
    have hszx := szE_at hx
    rw [hdr, sizeEs] at hc
    have hb1 := sizeE_bd x
    have hb2 := sizeEs_bd (e.a.drop (k + 1))
    have hsub := ih (szE x) (by omega) (by omega) x (Nat.le_refl _)
    rw [encE_eq] at hsub
    have hw2 : IntKind.i64.wrap (n + sizeE x) = n + sizeE x := wrap_small (by omega) (by omega)
    refine TS.of [] fun Q hQ => ?_
    simp only [go_sem, Nat.reduceEqDiff, Nat.reduceBEq, Int.reduceToNat, Int.reduceLT, Int.reduceLE, Int.reduceEq, Nat.reduceLeDiff, Nat.reduceLT, Nat.reduceMul, Nat.reduceAdd, String.reduceEq, i1, i3, i4, encE_eq, hm, hlt, hat, hlt5]
    refine cal_eq hsub ?_
    simp only [go_sem, Nat.reduceEqDiff, Nat.reduceBEq, Int.reduceToNat, Int.reduceLT, Int.reduceLE, Int.reduceEq, Nat.reduceLeDiff, Nat.reduceLT, Nat.reduceMul, Nat.reduceAdd, String.reduceEq, i1, i3, i4, hw, hw2]
    refine hQ .normal _ ?_; clear hQ Q
    refine ⟨_, _, (k + 1, n + sizeE x), DropW.refl _, ?_, ⟨hlt, by dsimp only; omega, by dsimp only; omega⟩, by dsimp only; omega⟩
    simp [upd_apply, i1, IV.np, npE]
  · refine TS.of [] fun Q hQ => ?_
    simp only [go_sem, Nat.reduceEqDiff, Nat.reduceBEq, Int.reduceToNat, Int.reduceLT, Int.reduceLE, Int.reduceEq, Nat.reduceLeDiff, Nat.reduceLT, Nat.reduceMul, Nat.reduceAdd, String.reduceEq, i1, i3, i4, encE_eq, hm, hlt]
    refine hQ (.exit 0) _ ?_; clear hQ Q
    rw [List.drop_eq_nil_of_le (by omega)] at hc
    simp only [sizeEs] at hc
    obtain rfl : n = 1 + sizeEs e.a := by omega
    refine TS.of [] fun Q hQ => ?_
    simp only [go_sem, Nat.reduceEqDiff, Nat.reduceBEq, Int.reduceToNat, Int.reduceLT, Int.reduceLE, Int.reduceEq, Nat.reduceLeDiff, Nat.reduceLT, Nat.reduceMul, Nat.reduceAdd, String.reduceEq, i3]
    refine hQ .ret _ ?_; exact post_ret _ _ _ rfl rfl (DropW.refl _) ⟨by rw [sizeE_eq]; rfl, rfl⟩
mutual
def stepT : Stmt → Int
  | .mk k _ x n b e _ =>
    let k1 := 1 + sizeEs x
    let k2 := if k = 6 then IntKind.i64.wrap (k1 + (if stepTs b 0 < stepTs e 0 then stepTs e 0 else stepTs b 0)) else k1
    if k = 7 ∨ k = 8 then IntKind.i64.wrap (k2 + IntKind.i64.wrap (n * IntKind.i64.wrap (1 + stepTs b 0))) else k2
def stepTs : List Stmt → Int → Int
  | [], n => n
  | s :: l, n => stepTs l (if 1073741824 < IntKind.i64.wrap (n + stepT s) then 1073741824 else IntKind.i64.wrap (n + stepT s))
end
theorem stepT_eq (s : Stmt) : stepT s = (if s.k = 7 ∨ s.k = 8 then IntKind.i64.wrap ((if s.k = 6 then IntKind.i64.wrap (1 + sizeEs s.x + (if stepTs s.b 0 < stepTs s.e 0 then stepTs s.e 0 else stepTs s.b 0)) else 1 + sizeEs s.x) + IntKind.i64.wrap (s.n * IntKind.i64.wrap (1 + stepTs s.b 0))) else (if s.k = 6 then IntKind.i64.wrap (1 + sizeEs s.x + (if stepTs s.b 0 < stepTs s.e 0 then stepTs s.e 0 else stepTs s.b 0)) else 1 + sizeEs s.x)) := by
  cases s; rw [stepT]; rfl
set_option maxRecDepth 100000 in
set_option maxHeartbeats 4000000 in
theorem steps_sim (m : Mem) : ∀ (N : Nat), N < 900000 → ∀ (l : List Stmt), szt l ≤ N → ∀ m : Mem, Sim 49 [slT l] m (fun r m' => r = ii (stepTs l 0) ∧ m' = m) := by
  intro N
  induction N using Nat.strongRecOn with
  | ind N ih =>
  intro hB l hN m
  have hll := szt_len l
  refine Sim.ofS 74 [.tmp 2] Try.func49 rfl rfl rfl (by simp) fun wr => ?_
  simp only [go_sem, Nat.reduceEqDiff, Nat.reduceBEq, Int.reduceToNat, Int.reduceLT, Int.reduceLE, Int.reduceEq, Nat.reduceLeDiff, Nat.reduceLT, Nat.reduceMul, Nat.reduceAdd, String.reduceEq]
  refine TS.seq (TS.of [] fun Q hQ => ?_)
  simp only [go_sem, Nat.reduceEqDiff, Nat.reduceBEq, Int.reduceToNat, Int.reduceLT, Int.reduceLE, Int.reduceEq, Nat.reduceLeDiff, Nat.reduceLT, Nat.reduceMul, Nat.reduceAdd, String.reduceEq]
  refine hQ .normal _ ?_; clear hQ Q
  refine TS.seq (TS.of [] fun Q hQ => ?_)
  simp only [go_sem, Nat.reduceEqDiff, Nat.reduceBEq, Int.reduceToNat, Int.reduceLT, Int.reduceLE, Int.reduceEq, Nat.reduceLeDiff, Nat.reduceLT, Nat.reduceMul, Nat.reduceAdd, String.reduceEq]
  refine hQ .normal _ ?_; clear hQ Q
  refine TS.seq (TS.seq (TS.of [] fun Q hQ => ?_))
  simp only [go_sem, Nat.reduceEqDiff, Nat.reduceBEq, Int.reduceToNat, Int.reduceLT, Int.reduceLE, Int.reduceEq, Nat.reduceLeDiff, Nat.reduceLT, Nat.reduceMul, Nat.reduceAdd, String.reduceEq]
  refine hQ .normal _ ?_; clear hQ Q
  refine TS.block (TS.loop (α := Nat × Int) (fun x => [(0, slT l), (3, ii x.2), (4, ii x.1)]) (fun _ => m) (fun x => x.1 ≤ l.length ∧ stepTs (l.drop x.1) x.2 = stepTs l 0) (fun x => l.length - x.1) (0, 0) (by simp) ⟨by simp [Has, upd_apply, argsT], rfl, by simp⟩ ?_)
  rintro ⟨k, n⟩ st hH hm ⟨hk, hc⟩
  dsimp only at hH hm hk hc
  simp only [Has, List.mem_cons, List.not_mem_nil, or_false, forall_eq_or_imp, forall_eq] at hH; obtain ⟨i0, i3, i4⟩ := hH
  by_cases hlt : k < l.length
  · obtain ⟨x, hx⟩ : ∃ x, l[k]? = some x := ⟨_, List.getElem?_eq_getElem hlt⟩
    have hdr : l.drop k = x :: l.drop (k + 1) := by rw [List.drop_eq_getElem_cons hlt]; congr 1; exact Option.some.inj ((List.getElem?_eq_getElem hlt).symm.trans hx)
    have hat := encTs_at hx
    have hlt7 : k * 7 < (encTs l).length := by rw [encTs_length]; omega
    have hw := wrap_succ hlt (by omega)
    have hszx := szT_at hx
    have hxsz := szT_eq x
    have hxl := szs_len x.x
    have hbd := sizeEs_bd x.x
    rw [hdr, stepTs] at hc
    have hst := stepT_eq x
    refine TS.seq (TS.of [] fun Q hQ => ?_)
    simp only [go_sem, Nat.reduceEqDiff, Nat.reduceBEq, Int.reduceToNat, Int.reduceLT, Int.reduceLE, Int.reduceEq, Nat.reduceLeDiff, Nat.reduceLT, Nat.reduceMul, Nat.reduceAdd, String.reduceEq, i0, i3, i4, hm, hlt]
    refine hQ .normal _ ?_; clear hQ Q
    refine TS.seq (TS.mono (Q := fun e1 s => e1 = .normal ∧ (s.t 0 = slT l ∧ s.t 3 = ii (if 1073741824 < IntKind.i64.wrap (n + stepT x) then 1073741824 else IntKind.i64.wrap (n + stepT x)) ∧ s.t 4 = ii k) ∧ s.m = ⟨m.objs ++ [.cells (encT x)], m.rows⟩) ?_ ?_)
    · refine TS.block (TS.seq (TS.of [] fun Q hQ => ?_))
      simp only [go_sem, Nat.reduceEqDiff, Nat.reduceBEq, Int.reduceToNat, Int.reduceLT, Int.reduceLE, Int.reduceEq, Nat.reduceLeDiff, Nat.reduceLT, Nat.reduceMul, Nat.reduceAdd, String.reduceEq, i0, i3, i4, hlt, hat, hlt7]
      refine hQ .normal _ ?_; clear hQ Q
      refine TS.seq (TS.of [] fun Q hQ => ?_)
      simp only [go_sem, Nat.reduceEqDiff, Nat.reduceBEq, Int.reduceToNat, Int.reduceLT, Int.reduceLE, Int.reduceEq, Nat.reduceLeDiff, Nat.reduceLT, Nat.reduceMul, Nat.reduceAdd, String.reduceEq]
      refine hQ .normal _ ?_; clear hQ Q
      refine TS.seq (TS.mono (Q := fun e1 s => e1 = .normal ∧ (s.t 0 = slT l ∧ s.t 3 = ii n ∧ s.t 4 = ii k ∧ s.t 5 = .ptr m.objs.length 0 ∧ s.t 6 = ii (1 + sizeEs x.x)) ∧ s.m = ⟨m.objs ++ [.cells (encT x)], m.rows⟩) ?_ ?_)
      · refine TS.seq (TS.of [] fun Q hQ => ?_)
        simp only [go_sem, Nat.reduceEqDiff, Nat.reduceBEq, Int.reduceToNat, Int.reduceLT, Int.reduceLE, Int.reduceEq, Nat.reduceLeDiff, Nat.reduceLT, Nat.reduceMul, Nat.reduceAdd, String.reduceEq]
        refine hQ .normal _ ?_; clear hQ Q
        refine TS.block (TS.loop (α := Nat × Int) (fun y => [(0, slT l), (3, ii n), (4, ii k), (5, .ptr m.objs.length 0), (6, ii y.2), (7, ii y.1)]) (fun _ => ⟨m.objs ++ [.cells (encT x)], m.rows⟩) (fun y => y.1 ≤ x.x.length ∧ 0 ≤ y.2 ∧ y.2 + sizeEs (x.x.drop y.1) = 1 + sizeEs x.x) (fun y => x.x.length - y.1) (0, 1) (by simp) ⟨by simp [Has, upd_apply, i0, i3, i4], by rw [encT_eq], by simp⟩ ?_)
        rintro ⟨j, q⟩ s2 hH hm2 ⟨hj, hq0, hq⟩
        dsimp only at hH hm2 hj hq0 hq
        simp only [Has, List.mem_cons, List.not_mem_nil, or_false, forall_eq_or_imp, forall_eq] at hH; obtain ⟨j0, j3, j4, j5, j6, j7⟩ := hH
        by_cases hjl : j < x.x.length
        · obtain ⟨y, hy⟩ : ∃ y, x.x[j]? = some y := ⟨_, List.getElem?_eq_getElem hjl⟩
          have hdy : x.x.drop j = y :: x.x.drop (j + 1) := by rw [List.drop_eq_getElem_cons hjl]; congr 1; exact Option.some.inj ((List.getElem?_eq_getElem hjl).symm.trans hy)
          have hay := encEs_at hy
          have hly : j * 5 < (encEs x.x).length := by rw [encEs_length]; omega
          have hwj := wrap_succ hjl (by omega)
          have hszy := szE_at hy
          rw [hdy, sizeEs] at hq
          have hb1 := sizeE_bd y
          have hb2 := sizeEs_bd (x.x.drop (j + 1))
          have hsub := fun m => size_sim m (szE y) (by omega) y (Nat.le_refl _)
          rw [encE_eq] at hsub
          have hw2 : IntKind.i64.wrap (q + sizeE y) = q + sizeE y := wrap_small (by omega) (by omega)
          refine TS.of [] fun Q hQ => ?_
          simp only [go_sem, Nat.reduceEqDiff, Nat.reduceBEq, Int.reduceToNat, Int.reduceLT, Int.reduceLE, Int.reduceEq, Nat.reduceLeDiff, Nat.reduceLT, Nat.reduceMul, Nat.reduceAdd, String.reduceEq, j0, j3, j4, j5, j6, j7, encT_eq, hm2, hjl, hay, hly]
          refine cal_eq (hsub _) ?_
          simp only [go_sem, Nat.reduceEqDiff, Nat.reduceBEq, Int.reduceToNat, Int.reduceLT, Int.reduceLE, Int.reduceEq, Nat.reduceLeDiff, Nat.reduceLT, Nat.reduceMul, Nat.reduceAdd, String.reduceEq, j0, j3, j4, j5, j6, j7, hwj, hw2]
          refine hQ .normal _ ?_; clear hQ Q
          refine ⟨_, _, (j + 1, q + sizeE y), by rw [encT_eq]; exact DropW.refl _, ?_, ⟨hjl, by dsimp only; omega, by dsimp only; omega⟩, by dsimp only; omega⟩
          simp [upd_apply, j0, j3, j4, j5, IV.np, np_sh, npTs]
        · refine TS.of [] fun Q hQ => ?_
          simp only [go_sem, Nat.reduceEqDiff, Nat.reduceBEq, Int.reduceToNat, Int.reduceLT, Int.reduceLE, Int.reduceEq, Nat.reduceLeDiff, Nat.reduceLT, Nat.reduceMul, Nat.reduceAdd, String.reduceEq, j0, j3, j4, j5, j6, j7, encT_eq, hm2, hjl]
          refine hQ (.exit 2) _ ?_; clear hQ Q
          rw [List.drop_eq_nil_of_le (by omega)] at hq
          simp only [sizeEs] at hq
          exact ⟨rfl, by simp [upd_apply, j0, j3, j4, j5, j6]; omega, by rw [encT_eq]⟩
      rintro e1 s1 ⟨rfl, ⟨i0, i3, i4, i5, i6⟩, hm1⟩
      have hb := ih (szt x.b) (by omega) (by omega) x.b (Nat.le_refl _)
      have he := ih (szt x.e) (by omega) (by omega) x.e (Nat.le_refl _)
      generalize stepTs x.b 0 = sb at hb hst
      generalize stepTs x.e 0 = se at he hst
      generalize sizeEs x.x = z at hst i6 hbd
      by_cases k6 : x.k = 6
      · have k7 : ¬ x.k = 7 := by omega
        have k8 : ¬ x.k = 8 := by omega
        rw [if_neg (by omega), if_pos k6] at hst
        by_cases hlts : sb < se
        · rw [if_pos hlts] at hst
          rw [hst]
          by_cases hcap : 1073741824 < IntKind.i64.wrap (n + IntKind.i64.wrap (1 + z + se))
          · rw [if_pos hcap]
            refine TS.of [] fun Q hQ => ?_
            simp only [go_sem, Nat.reduceEqDiff, Nat.reduceBEq, Int.reduceToNat, Int.reduceLT, Int.reduceLE, Int.reduceEq, Nat.reduceLeDiff, Nat.reduceLT, Nat.reduceMul, Nat.reduceAdd, String.reduceEq, i0, i3, i4, i5, i6, hm1, encT_eq, eq_true k6, eq_false k7, eq_false k8, hlts, hcap]
            refine cal_eq (hb _) ?_
            simp only [go_sem, Nat.reduceEqDiff, Nat.reduceBEq, Int.reduceToNat, Int.reduceLT, Int.reduceLE, Int.reduceEq, Nat.reduceLeDiff, Nat.reduceLT, Nat.reduceMul, Nat.reduceAdd, String.reduceEq, i0, i3, i4, i5, i6, encT_eq, eq_true k6, eq_false k7, eq_false k8, hlts, hcap]
            refine cal_eq (he _) ?_
            simp only [go_sem, Nat.reduceEqDiff, Nat.reduceBEq, Int.reduceToNat, Int.reduceLT, Int.reduceLE, Int.reduceEq, Nat.reduceLeDiff, Nat.reduceLT, Nat.reduceMul, Nat.reduceAdd, String.reduceEq, i0, i3, i4, i5, i6, encT_eq, eq_true k6, eq_false k7, eq_false k8, hlts, hcap]
            refine hQ .normal _ ?_; clear hQ Q
            exact ⟨rfl, by simp [upd_apply, i0, i4], by first | rfl | rw [encT_eq]⟩
          · rw [if_neg hcap]
            refine TS.of [] fun Q hQ => ?_
            simp only [go_sem, Nat.reduceEqDiff, Nat.reduceBEq, Int.reduceToNat, Int.reduceLT, Int.reduceLE, Int.reduceEq, Nat.reduceLeDiff, Nat.reduceLT, Nat.reduceMul, Nat.reduceAdd, String.reduceEq, i0, i3, i4, i5, i6, hm1, encT_eq, eq_true k6, eq_false k7, eq_false k8, hlts, hcap]
            refine cal_eq (hb _) ?_
            simp only [go_sem, Nat.reduceEqDiff, Nat.reduceBEq, Int.reduceToNat, Int.reduceLT, Int.reduceLE, Int.reduceEq, Nat.reduceLeDiff, Nat.reduceLT, Nat.reduceMul, Nat.reduceAdd, String.reduceEq, i0, i3, i4, i5, i6, encT_eq, eq_true k6, eq_false k7, eq_false k8, hlts, hcap]
            refine cal_eq (he _) ?_
            simp only [go_sem, Nat.reduceEqDiff, Nat.reduceBEq, Int.reduceToNat, Int.reduceLT, Int.reduceLE, Int.reduceEq, Nat.reduceLeDiff, Nat.reduceLT, Nat.reduceMul, Nat.reduceAdd, String.reduceEq, i0, i3, i4, i5, i6, encT_eq, eq_true k6, eq_false k7, eq_false k8, hlts, hcap]
            refine hQ .normal _ ?_; clear hQ Q
            exact ⟨rfl, by simp [upd_apply, i0, i4], by first | rfl | rw [encT_eq]⟩
        · rw [if_neg hlts] at hst
          rw [hst]
          by_cases hcap : 1073741824 < IntKind.i64.wrap (n + IntKind.i64.wrap (1 + z + sb))
          · rw [if_pos hcap]
            refine TS.of [] fun Q hQ => ?_
            simp only [go_sem, Nat.reduceEqDiff, Nat.reduceBEq, Int.reduceToNat, Int.reduceLT, Int.reduceLE, Int.reduceEq, Nat.reduceLeDiff, Nat.reduceLT, Nat.reduceMul, Nat.reduceAdd, String.reduceEq, i0, i3, i4, i5, i6, hm1, encT_eq, eq_true k6, eq_false k7, eq_false k8, hlts, hcap]
            refine cal_eq (hb _) ?_
            simp only [go_sem, Nat.reduceEqDiff, Nat.reduceBEq, Int.reduceToNat, Int.reduceLT, Int.reduceLE, Int.reduceEq, Nat.reduceLeDiff, Nat.reduceLT, Nat.reduceMul, Nat.reduceAdd, String.reduceEq, i0, i3, i4, i5, i6, encT_eq, eq_true k6, eq_false k7, eq_false k8, hlts, hcap]
            refine cal_eq (he _) ?_
            simp only [go_sem, Nat.reduceEqDiff, Nat.reduceBEq, Int.reduceToNat, Int.reduceLT, Int.reduceLE, Int.reduceEq, Nat.reduceLeDiff, Nat.reduceLT, Nat.reduceMul, Nat.reduceAdd, String.reduceEq, i0, i3, i4, i5, i6, encT_eq, eq_true k6, eq_false k7, eq_false k8, hlts, hcap]
            refine hQ .normal _ ?_; clear hQ Q
            exact ⟨rfl, by simp [upd_apply, i0, i4], by first | rfl | rw [encT_eq]⟩
          · rw [if_neg hcap]
            refine TS.of [] fun Q hQ => ?_
            simp only [go_sem, Nat.reduceEqDiff, Nat.reduceBEq, Int.reduceToNat, Int.reduceLT, Int.reduceLE, Int.reduceEq, Nat.reduceLeDiff, Nat.reduceLT, Nat.reduceMul, Nat.reduceAdd, String.reduceEq, i0, i3, i4, i5, i6, hm1, encT_eq, eq_true k6, eq_false k7, eq_false k8, hlts, hcap]
            refine cal_eq (hb _) ?_
            simp only [go_sem, Nat.reduceEqDiff, Nat.reduceBEq, Int.reduceToNat, Int.reduceLT, Int.reduceLE, Int.reduceEq, Nat.reduceLeDiff, Nat.reduceLT, Nat.reduceMul, Nat.reduceAdd, String.reduceEq, i0, i3, i4, i5, i6, encT_eq, eq_true k6, eq_false k7, eq_false k8, hlts, hcap]
            refine cal_eq (he _) ?_
            simp only [go_sem, Nat.reduceEqDiff, Nat.reduceBEq, Int.reduceToNat, Int.reduceLT, Int.reduceLE, Int.reduceEq, Nat.reduceLeDiff, Nat.reduceLT, Nat.reduceMul, Nat.reduceAdd, String.reduceEq, i0, i3, i4, i5, i6, encT_eq, eq_true k6, eq_false k7, eq_false k8, hlts, hcap]
            refine hQ .normal _ ?_; clear hQ Q
            exact ⟨rfl, by simp [upd_apply, i0, i4], by first | rfl | rw [encT_eq]⟩
      by_cases k7 : x.k = 7
      · rw [if_pos (.inl k7), if_neg k6] at hst
        rw [hst]
        by_cases hcap : 1073741824 < IntKind.i64.wrap (n + IntKind.i64.wrap (1 + z + IntKind.i64.wrap (x.n * IntKind.i64.wrap (1 + sb))))
        · rw [if_pos hcap]
          refine TS.of [] fun Q hQ => ?_
          simp only [go_sem, Nat.reduceEqDiff, Nat.reduceBEq, Int.reduceToNat, Int.reduceLT, Int.reduceLE, Int.reduceEq, Nat.reduceLeDiff, Nat.reduceLT, Nat.reduceMul, Nat.reduceAdd, String.reduceEq, i0, i3, i4, i5, i6, hm1, encT_eq, eq_false k6, eq_true k7, hcap]
          refine drn_of ⟨[], [], []⟩ [0, 0, 2, 0, 8, 24, 56, 126, 255, 511] (by kernel_rfl) ?_
          simp only [go_sem, Nat.reduceEqDiff, Nat.reduceBEq, Int.reduceToNat, Int.reduceLT, Int.reduceLE, Int.reduceEq, Nat.reduceLeDiff, Nat.reduceLT, Nat.reduceMul, Nat.reduceAdd, String.reduceEq, i0, i3, i4, i5, i6, encT_eq]
          refine cald_eq (hb _) ?_
          simp only [go_sem, Nat.reduceEqDiff, Nat.reduceBEq, Int.reduceToNat, Int.reduceLT, Int.reduceLE, Int.reduceEq, Nat.reduceLeDiff, Nat.reduceLT, Nat.reduceMul, Nat.reduceAdd, String.reduceEq, i0, i3, i4, i5, i6, encT_eq, eq_false k6, eq_true k7, hcap]
          refine hQ .normal _ ?_; clear hQ Q
          exact ⟨rfl, by simp [upd_apply, i0, i4], by first | rfl | rw [encT_eq]⟩
        · rw [if_neg hcap]
          refine TS.of [] fun Q hQ => ?_
          simp only [go_sem, Nat.reduceEqDiff, Nat.reduceBEq, Int.reduceToNat, Int.reduceLT, Int.reduceLE, Int.reduceEq, Nat.reduceLeDiff, Nat.reduceLT, Nat.reduceMul, Nat.reduceAdd, String.reduceEq, i0, i3, i4, i5, i6, hm1, encT_eq, eq_false k6, eq_true k7, hcap]
          refine drn_of ⟨[], [], []⟩ [0, 0, 2, 0, 8, 24, 56, 126, 255, 511] (by kernel_rfl) ?_
          simp only [go_sem, Nat.reduceEqDiff, Nat.reduceBEq, Int.reduceToNat, Int.reduceLT, Int.reduceLE, Int.reduceEq, Nat.reduceLeDiff, Nat.reduceLT, Nat.reduceMul, Nat.reduceAdd, String.reduceEq, i0, i3, i4, i5, i6, encT_eq]
          refine cald_eq (hb _) ?_
          simp only [go_sem, Nat.reduceEqDiff, Nat.reduceBEq, Int.reduceToNat, Int.reduceLT, Int.reduceLE, Int.reduceEq, Nat.reduceLeDiff, Nat.reduceLT, Nat.reduceMul, Nat.reduceAdd, String.reduceEq, i0, i3, i4, i5, i6, encT_eq, eq_false k6, eq_true k7, hcap]
          refine hQ .normal _ ?_; clear hQ Q
          exact ⟨rfl, by simp [upd_apply, i0, i4], by first | rfl | rw [encT_eq]⟩
      by_cases k8 : x.k = 8
      · rw [if_pos (.inr k8), if_neg k6] at hst
        rw [hst]
        by_cases hcap : 1073741824 < IntKind.i64.wrap (n + IntKind.i64.wrap (1 + z + IntKind.i64.wrap (x.n * IntKind.i64.wrap (1 + sb))))
        · rw [if_pos hcap]
          refine TS.of [] fun Q hQ => ?_
          simp only [go_sem, Nat.reduceEqDiff, Nat.reduceBEq, Int.reduceToNat, Int.reduceLT, Int.reduceLE, Int.reduceEq, Nat.reduceLeDiff, Nat.reduceLT, Nat.reduceMul, Nat.reduceAdd, String.reduceEq, i0, i3, i4, i5, i6, hm1, encT_eq, eq_false k6, eq_false k7, eq_true k8, hcap]
          refine drn_of ⟨[], [], []⟩ [0, 0, 2, 0, 8, 24, 56, 126, 255, 511] (by kernel_rfl) ?_
          simp only [go_sem, Nat.reduceEqDiff, Nat.reduceBEq, Int.reduceToNat, Int.reduceLT, Int.reduceLE, Int.reduceEq, Nat.reduceLeDiff, Nat.reduceLT, Nat.reduceMul, Nat.reduceAdd, String.reduceEq, i0, i3, i4, i5, i6, encT_eq]
          refine cald_eq (hb _) ?_
          simp only [go_sem, Nat.reduceEqDiff, Nat.reduceBEq, Int.reduceToNat, Int.reduceLT, Int.reduceLE, Int.reduceEq, Nat.reduceLeDiff, Nat.reduceLT, Nat.reduceMul, Nat.reduceAdd, String.reduceEq, i0, i3, i4, i5, i6, encT_eq, eq_false k6, eq_false k7, eq_true k8, hcap]
          refine hQ .normal _ ?_; clear hQ Q
          exact ⟨rfl, by simp [upd_apply, i0, i4], by first | rfl | rw [encT_eq]⟩
        · rw [if_neg hcap]
          refine TS.of [] fun Q hQ => ?_
          simp only [go_sem, Nat.reduceEqDiff, Nat.reduceBEq, Int.reduceToNat, Int.reduceLT, Int.reduceLE, Int.reduceEq, Nat.reduceLeDiff, Nat.reduceLT, Nat.reduceMul, Nat.reduceAdd, String.reduceEq, i0, i3, i4, i5, i6, hm1, encT_eq, eq_false k6, eq_false k7, eq_true k8, hcap]
          refine drn_of ⟨[], [], []⟩ [0, 0, 2, 0, 8, 24, 56, 126, 255, 511] (by kernel_rfl) ?_
          simp only [go_sem, Nat.reduceEqDiff, Nat.reduceBEq, Int.reduceToNat, Int.reduceLT, Int.reduceLE, Int.reduceEq, Nat.reduceLeDiff, Nat.reduceLT, Nat.reduceMul, Nat.reduceAdd, String.reduceEq, i0, i3, i4, i5, i6, encT_eq]
          refine cald_eq (hb _) ?_
          simp only [go_sem, Nat.reduceEqDiff, Nat.reduceBEq, Int.reduceToNat, Int.reduceLT, Int.reduceLE, Int.reduceEq, Nat.reduceLeDiff, Nat.reduceLT, Nat.reduceMul, Nat.reduceAdd, String.reduceEq, i0, i3, i4, i5, i6, encT_eq, eq_false k6, eq_false k7, eq_true k8, hcap]
          refine hQ .normal _ ?_; clear hQ Q
          exact ⟨rfl, by simp [upd_apply, i0, i4], by first | rfl | rw [encT_eq]⟩
      rw [if_neg (by omega), if_neg k6] at hst
      rw [hst]
      by_cases hcap : 1073741824 < IntKind.i64.wrap (n + (1 + z))
      · rw [if_pos hcap]
        refine TS.of [] fun Q hQ => ?_
        simp only [go_sem, Nat.reduceEqDiff, Nat.reduceBEq, Int.reduceToNat, Int.reduceLT, Int.reduceLE, Int.reduceEq, Nat.reduceLeDiff, Nat.reduceLT, Nat.reduceMul, Nat.reduceAdd, String.reduceEq, i0, i3, i4, i5, i6, hm1, encT_eq, eq_false k6, eq_false k7, eq_false k8, hcap]
        refine hQ .normal _ ?_; clear hQ Q
        exact ⟨rfl, by simp [upd_apply, i0, i4], by first | rfl | rw [encT_eq]⟩
      · rw [if_neg hcap]
        refine TS.of [] fun Q hQ => ?_
        simp only [go_sem, Nat.reduceEqDiff, Nat.reduceBEq, Int.reduceToNat, Int.reduceLT, Int.reduceLE, Int.reduceEq, Nat.reduceLeDiff, Nat.reduceLT, Nat.reduceMul, Nat.reduceAdd, String.reduceEq, i0, i3, i4, i5, i6, hm1, encT_eq, eq_false k6, eq_false k7, eq_false k8, hcap]
        refine hQ .normal _ ?_; clear hQ Q
        exact ⟨rfl, by simp [upd_apply, i0, i4], by first | rfl | rw [encT_eq]⟩
    · rintro e1 s1 ⟨rfl, ⟨i0, i3, i4⟩, hm1⟩
      refine TS.of [] fun Q hQ => ?_
      simp only [go_sem, Nat.reduceEqDiff, Nat.reduceBEq, Int.reduceToNat, Int.reduceLT, Int.reduceLE, Int.reduceEq, Nat.reduceLeDiff, Nat.reduceLT, Nat.reduceMul, Nat.reduceAdd, String.reduceEq, i0, i3, i4, hm1, hw]
      refine hQ .normal _ ?_; clear hQ Q
      refine ⟨m.objs.length, m.rows.length, (k + 1, if 1073741824 < IntKind.i64.wrap (n + stepT x) then 1073741824 else IntKind.i64.wrap (n + stepT x)), DropW.tail0 [.cells (encT x)] rfl, ?_, ⟨hlt, hc⟩, by dsimp only; omega⟩
      simp [upd_apply, i0, i3, IV.np, np_sh, npTs]
  · refine TS.of [] fun Q hQ => ?_
    simp only [go_sem, Nat.reduceEqDiff, Nat.reduceBEq, Int.reduceToNat, Int.reduceLT, Int.reduceLE, Int.reduceEq, Nat.reduceLeDiff, Nat.reduceLT, Nat.reduceMul, Nat.reduceAdd, String.reduceEq, i0, i3, i4, hm, hlt]
    refine hQ (.exit 0) _ ?_; clear hQ Q
    rw [List.drop_eq_nil_of_le (by omega), stepTs] at hc
    subst hc
    refine TS.of [] fun Q hQ => ?_
    simp only [go_sem, Nat.reduceEqDiff, Nat.reduceBEq, Int.reduceToNat, Int.reduceLT, Int.reduceLE, Int.reduceEq, Nat.reduceLeDiff, Nat.reduceLT, Nat.reduceMul, Nat.reduceAdd, String.reduceEq, i3]
    refine hQ .ret _ ?_; exact post_ret _ _ _ rfl rfl (DropW.refl _) ⟨rfl, rfl⟩
end Go.Proofs.Ytphjldhdnmoolaa.A
/- The reference's Cells. -/
namespace Go.Proofs.Ytphjldhdnmoolaa.A
open Go
mutual
def cellsE : Expr → Bool
  | .mk k _ _ a _ => (k == 3) || cells a
def cells : List Expr → Bool
  | [] => false
  | e :: l => cellsE e || cells l
end
theorem cells_take : ∀ (l : List Expr) (k : Nat) (e : Expr), l[k]? = some e → cells (l.take (k + 1)) = (cells (l.take k) || ((e.k == 3) || cells e.a))
  | [], k, e, h => by simp at h
  | x :: l, 0, e, h => by simp at h; subst h; cases x; simp only [List.take_succ_cons, List.take_zero, cells, cellsE, Expr.k, Expr.a, Bool.or_false, Bool.false_or]
  | x :: l, k + 1, e, h => by
    simp at h
    simp only [List.take_succ_cons, cells, cells_take l k e h, Bool.or_assoc]
theorem cells_at : ∀ (l : List Expr) (k : Nat) (e : Expr), l[k]? = some e → ((e.k == 3) || cells e.a) = true → cells l = true
  | [], k, e, h, _ => by simp at h
  | x :: l, 0, e, h, g => by simp at h; subst h; cases x; simp [cells, cellsE, Expr.k, Expr.a] at *; exact .inl g
  | x :: l, k + 1, e, h, g => by simp at h; simp [cells, cells_at l k e h g]
set_option maxRecDepth 100000 in
set_option maxHeartbeats 1000000 in
theorem cells_sim (m : Mem) : ∀ (N : Nat), N < 900000 → ∀ (l : List Expr), szs l ≤ N → Sim 36 [slE l] m (fun r m' => r = bb (cells l) ∧ m' = m) := by
  intro N
  induction N using Nat.strongRecOn with
  | ind N ih =>
  intro hB l hN
  have hll := szs_len l
  refine Sim.ofS 24 [.tmp 2] Try.func36 rfl rfl rfl (by simp) fun wr => ?_
  simp only [go_sem, Nat.reduceLT, Nat.reduceEqDiff]
  refine TS.seq (TS.of [] fun Q hQ => ?_)
  simp only [go_sem, Nat.reduceLT, Nat.reduceEqDiff]
  refine hQ .normal _ ?_
  refine (TS.seq (TS.seq (TS.of [] fun Q hQ => ?_)))
  simp only [go_sem, Nat.reduceLT, Nat.reduceEqDiff]
  refine hQ .normal _ ?_
  refine (TS.block (TS.loop (α := Nat) (fun k => [(0, slE l), (3, ii k)]) (fun _ => m) (fun k => k ≤ l.length ∧ cells (l.take k) = false) (fun k => l.length - k) 0 (by simp) ⟨by simp [Has, upd_apply, argsT], rfl, by simp [cells]⟩ ?_))
  rintro k s hH hm ⟨hk, hc⟩
  simp only [Has, List.mem_cons, List.not_mem_nil, or_false, forall_eq_or_imp, forall_eq] at hH
  obtain ⟨h0, h3⟩ := hH
  by_cases hlt : k < l.length
  · obtain ⟨e, he⟩ : ∃ e, l[k]? = some e := ⟨l[k], List.getElem?_eq_getElem hlt⟩
    have hat := encEs_at he
    have hlt5 : k * 5 < (encEs l).length := by rw [encEs_length]; omega
    have hw := wrap_succ hlt (by omega)
    have hsz : szs e.a < N := by have := szs_at he; omega
    by_cases h3' : e.k = 3
    · refine TS.of [] fun Q hQ => ?_
      simp only [go_sem, Nat.reduceLT, Nat.reduceEqDiff, h0, h3, hm, hlt, hat, h3', hlt5, hw]
      refine hQ .ret _ ?_; exact (post_ret _ _ _ rfl rfl (DropW.refl m) ⟨by rw [cells_at l k e he (by simp [h3'])]; rfl, rfl⟩)
    · refine TS.of [] fun Q hQ => ?_
      simp only [go_sem, Nat.reduceLT, Nat.reduceEqDiff, h0, h3, hm, hlt, hat, h3', hlt5, hw]
      refine cal_eq (m0 := m) (r0 := bb (cells e.a)) ?_ ?_
      · exact ih _ hsz (by omega) e.a (Nat.le_refl _)
      have hct := cells_take l k e he
      rw [hc, show (e.k == 3) = false by simp [h3'], Bool.false_or, Bool.false_or] at hct
      cases hce : cells e.a with
      | true =>
        simp only [go_sem, Nat.reduceLT, Nat.reduceEqDiff, h0, h3, hm, hlt, hat, h3', hlt5, hw]
        refine hQ .ret _ ?_; exact (post_ret _ _ _ rfl rfl (DropW.refl m) ⟨by rw [cells_at l k e he (by simp [hce])]; rfl, rfl⟩)
      | false =>
        simp only [go_sem, Nat.reduceLT, Nat.reduceEqDiff, h0, h3, hm, hlt, hat, h3', hlt5, hw]
        refine hQ .normal _ ?_
        refine ⟨_, _, k + 1, DropW.refl m, ?_, ⟨hlt, by rw [hct, hce]⟩, by omega⟩
        simp [upd_apply, h0, IV.np, SK.np, npEs]
  · refine TS.of [] fun Q hQ => ?_
    simp only [go_sem, Nat.reduceLT, Nat.reduceEqDiff, h0, h3, hm, hlt]
    refine hQ (.exit 0) _ ?_
    refine TS.of [] fun Q hQ => ?_
    simp only [go_sem, Nat.reduceLT, Nat.reduceEqDiff]
    refine hQ .ret _ ?_
    refine (post_ret _ _ _ rfl rfl (DropW.refl m) ⟨?_, rfl⟩)
    rw [List.take_of_length_le (by omega)] at hc
    rw [hc]; rfl
end Go.Proofs.Ytphjldhdnmoolaa.A
