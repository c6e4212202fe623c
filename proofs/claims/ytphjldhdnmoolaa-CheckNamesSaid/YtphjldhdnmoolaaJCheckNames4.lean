/- Joined: P2, P3, P4, P5, N3, H0, N4, N5, C0 -/
import Derived.Test.YtphjldhdnmoolaaJCheckNames3
import Derived.Below
import Derived.ProofKit
import Derived.OpenShut
import Derived.ShutString
import Derived.ChangeOld
import Derived.ChangeMaps5
import Derived.SizedLaws
import Derived.Lib.SmallJoins
import Derived.RowKit
set_option linter.unusedVariables false
set_option linter.unusedSimpArgs false
/- The walks of some functions over the abstract machine. -/
namespace Go.Proofs.Ytphjldhdnmoolaa.A
open Go
/-! the checker and the document's answer: names -/
theorem look_app (s : Bytes) : ∀ (E L : Env), look s (E ++ L) = match look s E with | some v => some v | none => look s L
  | [], L => rfl
  | p :: E, L => by
    rw [List.cons_append, look, look]
    by_cases h : p.1 = s
    · rw [if_pos h, if_pos h]
    · rw [if_neg h, if_neg h]; exact look_app s E L
theorem getM_cat (s : Bytes) : ∀ (l m : List Ent), getM s (l ++ m) = match getM s l with | some v => some v | none => getM s m
  | [], m => rfl
  | e :: l, m => by
    rw [List.cons_append, getM, getM]
    by_cases h : s = e.1
    · rw [if_pos h, if_pos h]
    · rw [if_neg h, if_neg h]; exact getM_cat s l m
theorem look_none {s : Bytes} : ∀ {E : Env}, look s E = none ↔ s ∉ E.map (·.1)
  | [] => by simp [look]
  | p :: E => by
    rw [look]
    by_cases h : p.1 = s
    · rw [if_pos h]; simp [h]
    · rw [if_neg h, look_none]; simp [Ne.symm h, eq_comm (a := s)]
theorem getM_none {s : Bytes} : ∀ {l : List Ent}, getM s l = none ↔ s ∉ l.map (·.1)
  | [] => by simp [getM]
  | e :: l => by
    rw [getM]
    by_cases h : s = e.1
    · rw [if_pos h]; simp [h]
    · rw [if_neg h, getM_none]; simp [h]
theorem look_mem {s : Bytes} {v : Int} : ∀ {E : Env}, look s E = some v → (s, v) ∈ E
  | p :: E, h => by
    rw [look] at h
    by_cases hp : p.1 = s
    · rw [if_pos hp] at h; cases h; subst hp; exact List.mem_cons_self ..
    · rw [if_neg hp] at h; exact List.mem_cons_of_mem _ (look_mem h)
theorem look_of {s : Bytes} {v : Int} : ∀ {E : Env}, (E.map (·.1)).Nodup → (s, v) ∈ E → look s E = some v
  | p :: E, hn, h => by
    rw [look]
    rw [List.map_cons, List.nodup_cons] at hn
    rcases List.mem_cons.1 h with rfl | h
    · rw [if_pos rfl]
    · have : p.1 ≠ s := fun e => hn.1 (e ▸ List.mem_map.2 ⟨(s, v), h, rfl⟩)
      rw [if_neg this]; exact look_of hn.2 h
theorem delM_gx {s x : Bytes} : ∀ {l : List Ent}, (l.map (·.1)).Nodup → getM x (delM s l) = if x = s then none else getM x l
  | [], _ => by simp [delM, getM]
  | e :: l, hn => by
    rw [List.map_cons, List.nodup_cons] at hn
    rw [delM]
    by_cases h : s = e.1
    · rw [if_pos h]
      by_cases hx : x = s
      · rw [if_pos hx, getM_none, hx, h]; exact hn.1
      · rw [if_neg hx, getM, if_neg (by rw [← h]; exact hx)]
    · rw [if_neg h, getM, getM]
      by_cases hx : x = e.1
      · rw [if_pos hx, if_pos hx, if_neg (by rw [hx]; exact Ne.symm h)]
      · rw [if_neg hx, if_neg hx]; exact delM_gx hn.2
theorem delM_nodup {s : Bytes} : ∀ {l : List Ent}, (l.map (·.1)).Nodup → ((delM s l).map (·.1)).Nodup
  | [], h => h
  | e :: l, hn => by
    rw [List.map_cons, List.nodup_cons] at hn
    rw [delM]
    by_cases h : s = e.1
    · rw [if_pos h]; exact hn.2
    · rw [if_neg h, List.map_cons, List.nodup_cons]
      refine ⟨fun hm => hn.1 ?_, delM_nodup hn.2⟩
      have : getM e.1 (delM s l) ≠ none := fun h2 => (getM_none.1 h2) hm
      rw [delM_gx hn.2, if_neg (Ne.symm h)] at this
      exact Classical.byContradiction fun h3 => this (getM_none.2 h3)
structure Sy (cs : CS) (E : Env) (S : KS) : Prop where
  ok : cs.ok
  ft : cs.ft = none
  sf : S.ft = (0, 0)
  us : cs.us.map (·.1) = S.dl
  kn : ∀ s, getM s cs.kn = look s E
  nd : (cs.kn.map (·.1)).Nodup
  ne : (E.map (·.1)).Nodup
  sub : ∀ p ∈ E, p.1 ∈ S.dl
  ut : ∀ p ∈ E, getM p.1 cs.us = some p.2
theorem Sy.oke {cs : CS} {E : Env} {S : KS} (h : Sy cs E S) : OkE cs E := ⟨h.ft, h.kn, fun s v hv => by
  rw [← h.kn] at hv
  obtain ⟨e, h1, h2, h3⟩ := getM_mem hv
  rw [← h3]; exact h.ok.kpos e h1⟩
def Fa (cs : CS) (S : KS) : Prop := ∃ c a, c ≠ 0 ∧ cs.ft = some (c, a) ∧ S.ft = (c, a)
theorem memB_us {cs : CS} {S : KS} (ok : cs.ok) (us : cs.us.map (·.1) = S.dl) (n : Bytes) : (0 < (getM n cs.us).getD 0) ↔ memB n S.dl = true := by
  rw [memB_iff, ← us]
  constructor
  · intro h
    exact Classical.byContradiction fun h2 => by rw [getM_none.2 h2] at h; exact absurd h (by decide)
  · intro h
    cases hg : getM n cs.us with
    | none => exact absurd h (getM_none.1 hg)
    | some v =>
      obtain ⟨e, h1, h2, h3⟩ := getM_mem hg
      have := ok.pos e h1
      simp only [Option.getD_some]; omega
theorem declare_eq {cs : CS} {E : Env} {S : KS} (h : Sy cs E S) (name : Bytes) (kind at_ : Int) (hk : 0 < kind) :
    Fa (cs.declare name kind at_) (S.declare name at_) ∨ (cs.declare name kind at_ = { cs with us := cs.us ++ [(name, kind, cs.uc)], uc := cs.uc + 1, kn := cs.kn ++ [(name, kind, cs.kc)], kc := cs.kc + 1 } ∧ Sy (cs.declare name kind at_) (E ++ [(name, kind)]) (S.declare name at_) ∧ name ∉ S.dl) := by
  have hm := memB_us h.ok h.us name
  have hl : cs.us.length = S.dl.length := by rw [← h.us, List.length_map]
  by_cases h1 : memB name S.dl = true
  · left
    refine ⟨9, at_, by decide, ?_, ?_⟩
    · unfold CS.declare; rw [h.ft]; rw [if_neg (by simp), if_pos (hm.2 h1), fail_none h.ft]
    · unfold KS.declare; rw [if_pos h1, h.sf]; exact failF_0 _ _
  · have h1' : ¬ 0 < (getM name cs.us).getD 0 := fun x => h1 (hm.1 x)
    by_cases h2 : 16 ≤ S.dl.length
    · left
      refine ⟨15, at_, by decide, ?_, ?_⟩
      · unfold CS.declare; rw [h.ft]; rw [if_neg (by simp), if_neg h1', if_pos (by omega), fail_none h.ft]
      · unfold KS.declare; rw [if_neg h1, if_pos h2, h.sf]; exact failF_0 _ _
    · right
      have hc : cs.declare name kind at_ = { cs with us := cs.us ++ [(name, kind, cs.uc)], uc := cs.uc + 1, kn := cs.kn ++ [(name, kind, cs.kc)], kc := cs.kc + 1 } := by
        unfold CS.declare; rw [h.ft]; rw [if_neg (by simp), if_neg h1', if_neg (by omega)]
      have hs : S.declare name at_ = { S with dl := S.dl ++ [name] } := by unfold KS.declare; rw [if_neg h1, if_neg h2]
      have hno : name ∉ S.dl := fun x => h1 (memB_iff.2 x)
      obtain ⟨ha1, ha2⟩ := h.ok.absent h1'
      refine ⟨hc, ?_, hno⟩
      have hok : (cs.declare name kind at_).ok := by
        exact h.ok.declare name (fun _ => hk) at_
      rw [hs]
      refine ⟨hok, ?_, h.sf, ?_, ?_, ?_, ?_, ?_, ?_⟩
      all_goals (first | rw [hc] | skip)
      · exact h.ft
      · simp [h.us]
      · intro s
        dsimp only
        rw [getM_cat, look_app, h.kn s]
        cases look s E with
        | some v => rfl
        | none =>
          simp only [getM, look]
          by_cases hh : s = name
          · simp [hh]
          · simp [hh, show ¬ name = s from fun e => hh e.symm]
      · dsimp only
        rw [List.map_append, List.nodup_append]
        exact ⟨h.nd, by simp, by intro a ha b hb e; simp at hb; subst hb; exact (getM_none.1 ha2) (e ▸ ha)⟩
      · rw [List.map_append, List.nodup_append]
        refine ⟨h.ne, by simp, ?_⟩
        intro a ha b hb e
        simp at hb; subst hb
        obtain ⟨p, hp, rfl⟩ := List.mem_map.1 ha
        exact hno (e ▸ h.sub _ hp)
      · intro p hp
        rcases List.mem_append.1 hp with hp | hp
        · exact List.mem_append_left _ (h.sub p hp)
        · simp at hp; subst hp; simp
      · intro p hp
        dsimp only
        rw [getM_cat]
        rcases List.mem_append.1 hp with hp | hp
        · rw [h.ut p hp]
        · simp at hp; subst hp; rw [ha1]; simp [getM]
end Go.Proofs.Ytphjldhdnmoolaa.A
/- The walks of some functions over the abstract machine. -/
namespace Go.Proofs.Ytphjldhdnmoolaa.A
open Go
/-! the checker and the document's answer: statements -/
theorem declare_fts {cs : CS} {p : Int × Int} (h : cs.ft = some p) (n : Bytes) (k a : Int) : cs.declare n k a = cs := by unfold CS.declare; rw [h]; rfl
theorem Kdeclare_ft {S : KS} (h : S.ft.1 ≠ 0) (n : Bytes) (a : Int) : (S.declare n a).ft = S.ft := by
  unfold KS.declare
  split
  · exact failF_ne h _ _
  · split
    · exact failF_ne h _ _
    · rfl
theorem changes_ft (cs : CS) (k : Int) : (cs.changes k).ft = cs.ft := by unfold CS.changes; dsimp only; split <;> rfl
theorem dels_same : ∀ (l : List Bytes) (cs : CS), cs.dels l = { cs with kn := (cs.dels l).kn }
  | [], cs => rfl
  | s :: l, cs => by rw [CS.dels]; exact (dels_same l { cs with kn := delM s cs.kn }).trans rfl
theorem dels_get : ∀ (l : List Bytes) (cs : CS), (cs.kn.map (·.1)).Nodup → ((cs.dels l).kn.map (·.1)).Nodup ∧ ∀ x, (x ∈ l → getM x (cs.dels l).kn = none) ∧ (x ∉ l → getM x (cs.dels l).kn = getM x cs.kn)
  | [], cs, h => ⟨h, fun x => ⟨fun h => (List.not_mem_nil h).elim, fun _ => rfl⟩⟩
  | s :: l, cs, h => by
    rw [CS.dels]
    have ih := dels_get l { cs with kn := delM s cs.kn } (delM_nodup h)
    refine ⟨ih.1, fun x => ⟨fun hm => ?_, fun hm => ?_⟩⟩
    · by_cases h1 : x ∈ l
      · exact (ih.2 x).1 h1
      · rw [(ih.2 x).2 h1]
        dsimp only
        rcases List.mem_cons.1 hm with h2 | h2
        · rw [delM_gx h, if_pos h2]
        · exact absurd h2 h1
    · rw [(ih.2 x).2 fun h1 => hm (List.mem_cons_of_mem _ h1)]
      dsimp only
      rw [delM_gx h, if_neg fun h2 => hm (by rw [h2]; exact List.mem_cons_self ..)]
theorem clet_ft {p : Int × Int} : ∀ (l : List Expr) (k n : Int) (cs : CS), cs.ft = some p → (clet l k n cs).2.2.ft = some p
  | [], k, n, cs, h => h
  | e :: l, k, n, cs, h => by rw [clet]; exact clet_ft l _ _ _ (cexpr_ft e cs h)
mutual
theorem cstmt_ft {p : Int × Int} : ∀ (s : Stmt) (cs : CS), cs.ft = some p → (cstmt s cs).2.ft = some p
  | .mk k s x n b e q, cs, h => by
    unfold cstmt
    split
    · rw [declare_fts (clet_ft x 0 0 cs h)]; exact clet_ft x 0 0 cs h
    · split
      · exact cloop_ft e [] 0 _ (cloop_ft b [] 0 _ (cargs_ft x 2 cs h))
      · split
        · rw [declare_fts h]
          split
          · rw [fail_some h]; exact h
          · exact cloop_ft b [s] 0 _ h
        · exact cargs_ft x 1 _ (by rw [changes_ft]; exact h)
theorem cloop_ft {p : Int × Int} : ∀ (l : List Stmt) (also : List Bytes) (n : Int) (cs : CS), cs.ft = some p → (cloop l also n cs).2.ft = some p
  | [], also, n, cs, h => by rw [cloop]; dsimp only; rw [dels_same]; exact h
  | s :: l, also, n, cs, h => by
    unfold cloop
    have h1 := cstmt_ft s cs h
    split
    · exact h1
    · exact cloop_ft l _ _ _ h1
end
mutual
theorem stmtK_ft {st : Int × Int} (hn : st.1 ≠ 0) : ∀ (s : Stmt) (E : Env) (S : KS), S.ft = st → (stmtK s E S).2.ft = st
  | .mk k s x n b e q, E, S, h => by
    have h0 : S.ft.1 ≠ 0 := by rw [h]; exact hn
    unfold stmtK
    split
    · dsimp only
      rw [Kdeclare_ft]
      · rw [kindE_ft E h0]; exact h
      · dsimp only; rw [kindE_ft E h0]; exact h0
    · split
      · exact blockK_ft hn e E _ (blockK_ft hn b E _ (by dsimp only; rw [needE_ft E h0]; exact h))
      · split
        · have hd := Kdeclare_ft h0 s q
          refine blockK_ft hn b _ _ ?_
          split
          · dsimp only; rw [failF_ne (by rw [hd]; exact h0), hd]; exact h
          · rw [hd]; exact h
        · dsimp only
          rw [needE_ft E h0, needE_ft E h0]; exact h
theorem blockK_ft {st : Int × Int} (hn : st.1 ≠ 0) : ∀ (l : List Stmt) (E : Env) (S : KS), S.ft = st → (blockK l E S).2.ft = st
  | [], E, S, h => h
  | s :: l, E, S, h => by rw [blockK]; exact blockK_ft hn l _ _ (stmtK_ft hn s E S h)
end
theorem Fa.block {cs : CS} {S : KS} (h : Fa cs S) (l : List Stmt) (also : List Bytes) (n : Int) (E : Env) : Fa (cloop l also n cs).2 (blockK l E S).2 := by
  obtain ⟨c, a, hc, h1, h2⟩ := h
  exact ⟨c, a, hc, cloop_ft l also n cs h1, blockK_ft (st := (c, a)) hc l E S h2⟩
/-! what a statement leaves -/
def mdK (k : Int) : Int := if k = 3 ∨ k = 4 then 2 else if k = 2 ∨ k = 5 then 3 else 0
mutual
def mdT : Stmt → Int
  | .mk k _ _ _ b e _ => max (mdK k) (max (mdTs b) (mdTs e))
def mdTs : List Stmt → Int
  | [] => 0
  | s :: l => max (mdT s) (mdTs l)
end
structure Aft (a b : CS) (r : Bool) (m : Int) (t : Bool) : Prop where
  rd : b.rd = (a.rd || r)
  m0 : 0 ≤ m
  md : 0 ≤ a.md → b.md = max a.md m
  tn : b.tn = (a.tn && !t)
theorem Aft.trans {a b c : CS} {r r' : Bool} {m m' : Int} {t t' : Bool} (h : Aft a b r m t) (g : Aft b c r' m' t') : Aft a c (r || r') (max m m') (t || t') := by
  have h0 := h.m0
  refine ⟨by rw [g.rd, h.rd, Bool.or_assoc], by omega, fun h1 => ?_, by rw [g.tn, h.tn, Bool.and_assoc, Bool.not_or]⟩
  have h2 := h.md h1
  have h3 := g.md (by omega)
  omega
theorem Aft.same {a b : CS} (h1 : b.rd = a.rd) (h2 : b.md = a.md) (h3 : b.tn = a.tn) : Aft a b false 0 false := ⟨by simp [h1], by omega, fun h => by omega, by simp [h3]⟩
theorem Aft.reads {a b : CS} {r : Bool} (h1 : b.rd = (a.rd || r)) (h2 : b.md = a.md) (h3 : b.tn = a.tn) : Aft a b r 0 false := ⟨h1, by omega, fun h => by omega, by simp [h3]⟩
theorem Aft.changes (a : CS) {k : Int} (h1 : 2 ≤ k) (h2 : k ≤ 5) : Aft a (a.changes k) false (mdK k) (decide (k = 2)) := by
  unfold CS.changes mdK
  dsimp only
  by_cases h : k = 2
  · subst h
    refine ⟨by simp, by simp, fun h => ?_, by simp⟩
    simp; split <;> omega
  · rw [if_neg h]
    refine ⟨by simp, by split <;> (try split) <;> omega, fun h0 => ?_, by simp [h]⟩
    dsimp only
    by_cases h3 : k = 3 ∨ k = 4
    · simp only [if_pos h3]; split <;> omega
    · have h5 : k = 2 ∨ k = 5 := by omega
      simp only [if_neg h3, if_pos h5]; split <;> omega
theorem Aft.eq {a b : CS} {r r' : Bool} {m m' : Int} {t t' : Bool} (h : Aft a b r m t) (h1 : r = r') (h2 : m = m') (h3 : t = t') : Aft a b r' m' t' := by subst h1 h2 h3; exact h
def Rm (c r : Int) : Prop := (c = r ∧ 0 ≤ c) ∨ (2049 ≤ c ∧ 2049 ≤ r)
def lets : List Stmt → List Bytes
  | [] => []
  | s :: l => if s.k = 1 then s.s :: lets l else lets l
theorem Sy.rd {cs : CS} {E : Env} {S : KS} (h : Sy cs E S) (b : Bool) : Sy { cs with rd := b } E S := ⟨⟨h.ok.kb, h.ok.ub, h.ok.pos, h.ok.sub, h.ok.kpos, h.ok.ul⟩, h.ft, h.sf, h.us, h.kn, h.nd, h.ne, h.sub, h.ut⟩
theorem Sy.changes {cs : CS} {E : Env} {S : KS} (h : Sy cs E S) (k : Int) : Sy (cs.changes k) E S := by
  have ho := h.ok.names (names_changes cs k)
  have hn := names_changes cs k
  refine ⟨ho, by rw [changes_ft]; exact h.ft, h.sf, by rw [hn.2.2.1]; exact h.us, by rw [hn.1]; exact h.kn, by rw [hn.1]; exact h.nd, h.ne, h.sub, by rw [hn.2.2.1]; exact h.ut⟩
theorem Sy.st {cs : CS} {E : Env} {S : KS} (h : Sy cs E S) {ft : Int × Int} (hf : ft = (0, 0)) : Sy cs E ⟨S.dl, ft⟩ := ⟨h.ok, h.ft, hf, h.us, h.kn, h.nd, h.ne, h.sub, h.ut⟩
theorem want_same {e : Expr} (hf : fitE e) {E : Env} {cs : CS} (h : OkE cs E) {w : Int} : ((cwant e w cs).2 = { cs with rd := cs.rd || cellsE e } ∧ needE e w E (0, 0) = (0, 0)) ∨ ∃ c a, c ≠ 0 ∧ (cwant e w cs).2.ft = some (c, a) ∧ needE e w E (0, 0) = (c, a) := by
  unfold cwant needE
  dsimp only
  rcases expr_eq hf h with ⟨h1, h2, h3, h4⟩ | ⟨c, a, hc, h1, h2⟩
  · rw [h1, h2, h3]
    by_cases ht : (cexpr e cs).1 = w
    · rw [if_pos ht, if_pos ht]; exact .inl ⟨rfl, rfl⟩
    · rw [if_neg ht, if_neg ht, failF_0]
      exact .inr ⟨10, e.p, by decide, fail_none_ft (cs := { cs with rd := _ }) (by exact h.ft) _ _, rfl⟩
  · rw [h2]
    refine .inr ⟨c, a, hc, ?_, ?_⟩
    · split
      · exact h1
      · rw [fail_some h1]; exact h1
    · split
      · rfl
      · exact failF_ne hc _ _
theorem Rm.loop {n c r : Int} (h : Rm c r) (h0 : 0 ≤ n) (hn : n ≤ 64) : Rm (1 + n * (if 2049 < 1 + c then 2049 else 1 + c)) (1 + n * (1 + r)) := by
  unfold Rm at h ⊢
  rcases h with ⟨rfl, h⟩ | ⟨h1, h2⟩
  · by_cases hc : 2049 < 1 + c
    · rw [if_pos hc]
      by_cases hz : n = 0
      · subst hz; left; omega
      · right
        have h3 : 1 * 2049 ≤ n * 2049 := Int.mul_le_mul_of_nonneg_right (by omega) (by omega)
        have h4 : n * 2049 ≤ n * (1 + c) := Int.mul_le_mul_of_nonneg_left (by omega) h0
        omega
    · rw [if_neg hc]
      left
      have h3 : 0 ≤ n * (1 + c) := Int.mul_nonneg h0 (by omega)
      exact ⟨rfl, by omega⟩
  · by_cases hz : n = 0
    · subst hz; left; omega
    · right
      rw [if_pos (by omega)]
      have h3 : 1 * 2049 ≤ n * 2049 := Int.mul_le_mul_of_nonneg_right (by omega) (by omega)
      have h4 : n * 2049 ≤ n * (1 + r) := Int.mul_le_mul_of_nonneg_left (by omega) h0
      omega
end Go.Proofs.Ytphjldhdnmoolaa.A
/- The walks of some functions over the abstract machine. -/
namespace Go.Proofs.Ytphjldhdnmoolaa.A
open Go
/-! the checker and the document's answer: blocks -/
theorem Sy.dels {cs : CS} {E0 L : Env} {S : KS} (h : Sy cs (E0 ++ L) S) {also : List Bytes} (ha : L.map (·.1) = also) : Sy (cs.dels also) E0 S := by
  have hd := dels_get also cs h.nd
  have hne := h.ne
  rw [List.map_append, List.nodup_append] at hne
  have e := dels_same also cs
  refine ⟨h.ok.dels, ?_, h.sf, ?_, ?_, hd.1, hne.1, fun p hp => h.sub p (List.mem_append_left _ hp), fun p hp => ?_⟩
  · rw [e]; exact h.ft
  · rw [e]; exact h.us
  · intro s
    by_cases hs : s ∈ also
    · rw [(hd.2 s).1 hs]
      refine (look_none.2 fun hm => ?_).symm
      exact hne.2.2 s hm s (by rw [ha]; exact hs) rfl
    · rw [(hd.2 s).2 hs, h.kn s, look_app]
      have : look s L = none := look_none.2 (by rw [ha]; exact hs)
      rw [this]
      cases look s E0 <;> rfl
  · rw [e]; exact h.ut p (List.mem_append_left _ hp)
def StG (s : Stmt) (cs : CS) (E : Env) (S : KS) : Prop := ∃ L : Env, (stmtK s E S).1 = E ++ L ∧ L.map (·.1) = (if s.k = 1 then [s.s] else []) ∧ Sy (cstmt s cs).2 (E ++ L) (stmtK s E S).2 ∧ Aft cs (cstmt s cs).2 (readsT s) (mdT s) (hasT 2 2 s) ∧ Rm (cstmt s cs).1 (stepT s) ∧ (0 ≤ stepT s ∧ stepT s ≤ 137438953472)
def LpG (l : List Stmt) (also : List Bytes) (n r : Int) (cs : CS) (E0 L0 : Env) (S : KS) : Prop := ∃ L : Env, (blockK l (E0 ++ L0) S).1 = E0 ++ L0 ++ L ∧ L.map (·.1) = lets l ∧ Sy (cloop l also n cs).2 E0 (blockK l (E0 ++ L0) S).2 ∧ ((E0 ++ L0 ++ L).map (·.1)).Nodup ∧ (∀ p ∈ E0 ++ L0 ++ L, getM p.1 (cloop l also n cs).2.us = some p.2) ∧ Aft cs (cloop l also n cs).2 (readsTs l) (mdTs l) (hasTs 2 2 l) ∧ Rm (cloop l also n cs).1 (stepTs l r) ∧ (0 ≤ stepTs l r ∧ stepTs l r ≤ 1073741824)
theorem Rm.add {n c r q : Int} (h : Rm n r) (g : Rm c q) (hr : 0 ≤ r) (hq : 0 ≤ q) : Rm (n + c) (if 1073741824 < r + q then 1073741824 else r + q) := by
  unfold Rm at *
  split <;> omega
theorem fitTs_mem2 : True := trivial
set_option maxRecDepth 100000 in
set_option maxHeartbeats 4000000 in
mutual
theorem stmt_same : ∀ (s : Stmt), fitT s → fineT s → szT s < 900000 → ∀ (cs : CS) (E : Env) (S : KS), Sy cs E S → Fa (cstmt s cs).2 (stmtK s E S).2 ∨ StG s cs E S
  | .mk k s x n b e p, hfit, hfine, hsz, cs, E, S, hs => by
    obtain ⟨hx, hb, he, hn, hk⟩ := hfit
    have hfi := hfine
    unfold fineT at hfine
    obtain ⟨_, _, fb, fe⟩ := hfine
    have hsz2 : szs x + szt b + szt e + 1 < 900000 := hsz
    have hok := cstmt_ok (.mk k s x n b e p) cs hs.ok hfi
    have hse := sizeEs_bd x
    have hoke := hs.oke
    rcases hk with ⟨rfl, ⟨a, rfl⟩, rfl, rfl⟩ | ⟨⟨kk2, kk5⟩, ⟨a, c, rfl⟩, rfl, rfl⟩ | ⟨rfl, a, rfl⟩ | ⟨hk, rfl, rfl⟩
    · -- let
      have hfa : fitE a := hx.1
      have e1 : (cstmt (.mk 1 s [a] n [] [] p) cs) = (1 + (cexpr a cs).2.1, (cexpr a cs).2.2.declare s (cexpr a cs).1 p) := by rw [cstmt]; rfl
      have e2 : (stmtK (.mk 1 s [a] n [] [] p) E S) = (E ++ [(s, (kindE a E S.ft).1)], KS.declare s p ⟨S.dl, (kindE a E S.ft).2⟩) := by rw [stmtK]; rfl
      have e3 : stepT (.mk 1 s [a] n [] [] p) = 1 + sizeEs [a] := by rw [stepT_eq]; rfl
      unfold StG
      rw [e1, e2, e3]
      rw [hs.sf]
      dsimp only
      rcases expr_eq hfa hoke with ⟨h1, h2, h3, h4⟩ | ⟨c, q, hc, h1, h2⟩
      · rw [h1, h2, h3]
        have hs2 : Sy { cs with rd := cs.rd || cellsE a } E ⟨S.dl, (0, 0)⟩ := (hs.rd _).st rfl
        rcases declare_eq hs2 s (cexpr a cs).1 p h4 with g | ⟨g1, g2, g3⟩
        · exact .inl g
        · refine .inr ⟨[(s, (cexpr a cs).1)], rfl, rfl, g2, ?_, ?_, ?_⟩
          · rw [g1]
            exact (Aft.reads (r := cellsE a) (by rfl) (by rfl) (by rfl)).eq (by simp [readsT, readsTs, cells]) (by simp [mdT, mdTs, mdK]) (by simp [hasT, hasTs])
          · rw [cexpr_size a hfa]
            have := sizeE_bd a
            simp only [sizeEs]
            left; omega
          · omega
      · left
        rw [h2, declare_fts h1]
        refine ⟨c, q, hc, h1, ?_⟩
        rw [Kdeclare_ft]
        exact hc
    · -- changes
      have k1 : ¬ k = 1 := by omega
      have k6 : ¬ k = 6 := by omega
      have k7 : ¬ (k = 7 ∨ k = 8) := by omega
      have e1 : (cstmt (.mk k s [a, c] n [] [] p) cs) = (1 + (cargs [a, c] 1 (cs.changes k)).1, (cargs [a, c] 1 (cs.changes k)).2) := by rw [cstmt, if_neg k1, if_neg k6, if_neg k7]
      have e2 : (stmtK (.mk k s [a, c] n [] [] p) E S) = (E, ⟨S.dl, needE c 1 E (needE a 1 E S.ft)⟩) := by rw [stmtK, if_neg k1, if_neg k6, if_neg k7]; rfl
      have e3 : stepT (.mk k s [a, c] n [] [] p) = 1 + sizeEs [a, c] := by rw [stepT_eq]; rw [if_neg (show ¬ ((Stmt.mk k s [a, c] n [] [] p).k = 7 ∨ (Stmt.mk k s [a, c] n [] [] p).k = 8) from k7), if_neg (show ¬ (Stmt.mk k s [a, c] n [] [] p).k = 6 from k6)]; rfl
      unfold StG
      rw [e1, e2, e3, hs.sf]
      have hsc := hs.changes k
      have hcc : cargs [a, c] 1 (cs.changes k) = ((cwant a 1 (cs.changes k)).1 + ((cwant c 1 (cwant a 1 (cs.changes k)).2).1 + 0), (cwant c 1 (cwant a 1 (cs.changes k)).2).2) := by rw [cargs_cons, cargs_cons]; rfl
      have hsize := cargs_size [a, c] hx 1 (cs.changes k)
      dsimp only
      rcases want_same (w := 1) hx.1 hsc.oke with ⟨h1, h2⟩ | ⟨f, q, hf, h1, h2⟩
      · rw [h2]
        have hs2 := hsc.rd ((cs.changes k).rd || cellsE a)
        rcases want_same (w := 1) hx.2.1 hs2.oke with ⟨g1, g2⟩ | ⟨f, q, hf, g1, g2⟩
        · right
          refine ⟨[], (List.append_nil E).symm, by rw [if_neg (show ¬ (Stmt.mk k s [a, c] n [] [] p).k = 1 from k1)]; rfl, ?_, ?_, ?_, by omega⟩
          · rw [hcc, h1]
            dsimp only
            rw [g1, g2, List.append_nil]
            exact (hs2.rd _).st rfl
          · rw [hcc, h1]
            dsimp only
            rw [g1]
            have hA := Aft.changes cs kk2 kk5
            refine (hA.trans (Aft.reads (a := cs.changes k) (b := { (cs.changes k) with rd := (cs.changes k).rd || cellsE a || cellsE c }) (r := cellsE a || cellsE c) (Bool.or_assoc _ _ _) rfl rfl)).eq ?_ ?_ ?_
            · simp [readsT, readsTs, cells]
            · have := hA.m0; simp only [mdT, mdTs]; omega
            · rw [Bool.eq_iff_iff]; simp [hasT, hasTs]; omega
          · rw [hsize]; left; omega
        · left
          refine ⟨f, q, hf, ?_, ?_⟩
          · rw [hcc, h1]; exact g1
          · dsimp only; rw [g2]
      · left
        rw [h2]
        refine ⟨f, q, hf, ?_, ?_⟩
        · rw [hcc]; exact cwant_ft c 1 _ h1
        · dsimp only; exact needE_ft E (st := (f, q)) hf c 1
    · -- if
      have e1 : (cstmt (.mk 6 s [a] n b e p) cs) = (1 + (cargs [a] 2 cs).1 + (if (cloop b [] 0 (cargs [a] 2 cs).2).1 < (cloop e [] 0 (cloop b [] 0 (cargs [a] 2 cs).2).2).1 then (cloop e [] 0 (cloop b [] 0 (cargs [a] 2 cs).2).2).1 else (cloop b [] 0 (cargs [a] 2 cs).2).1), (cloop e [] 0 (cloop b [] 0 (cargs [a] 2 cs).2).2).2) := by rw [cstmt, if_neg (by decide), if_pos rfl]
      have e2 : (stmtK (.mk 6 s [a] n b e p) E S) = (E, (blockK e E (blockK b E ⟨S.dl, needE a 2 E S.ft⟩).2).2) := by rw [stmtK, if_neg (by decide), if_pos rfl]; rfl
      have e3 : stepT (.mk 6 s [a] n b e p) = IntKind.i64.wrap (1 + sizeEs [a] + (if stepTs b 0 < stepTs e 0 then stepTs e 0 else stepTs b 0)) := by rw [stepT_eq]; rfl
      unfold StG
      rw [e1, e2, e3, hs.sf]
      have hcc : cargs [a] 2 cs = ((cwant a 2 cs).1 + 0, (cwant a 2 cs).2) := by rw [cargs_cons]; rfl
      have hsize := cargs_size [a] hx 2 cs
      generalize hC : cargs [a] 2 cs = C at hcc hsize
      have hC2 : C.2 = (cwant a 2 cs).2 := by rw [hcc]
      dsimp only
      rcases want_same (w := 2) hx.1 hoke with ⟨h1, h2⟩ | ⟨f, q, hf, h1, h2⟩
      · rw [h2]
        have hs2 : Sy C.2 E ⟨S.dl, (0, 0)⟩ := by rw [hC2, h1]; exact (hs.rd _).st rfl
        have hA1 : Aft cs C.2 (cellsE a) 0 false := by rw [hC2, h1]; exact Aft.reads rfl rfl rfl
        clear hcc hC2 h1 h2
        have hb2 := loop_same b hb fb (by omega) [] 0 0 C.2 E [] ⟨S.dl, (0, 0)⟩ (by rw [List.append_nil]; exact hs2) rfl (.inl ⟨rfl, by omega⟩) (by omega) (by omega)
        unfold LpG at hb2
        simp only [List.append_nil] at hb2
        rcases hb2 with g | ⟨L1, _, _, g3, _, _, g6, g7, g8⟩
        · exact .inl (g.block e [] 0 E)
        · have he2 := loop_same e he fe (by omega) [] 0 0 _ E [] _ (by rw [List.append_nil]; exact g3) rfl (.inl ⟨rfl, by omega⟩) (by omega) (by omega)
          unfold LpG at he2
          simp only [List.append_nil] at he2
          rcases he2 with q | ⟨L2, _, _, q3, _, _, q6, q7, q8⟩
          · exact .inl q
          · right
            have hw : IntKind.i64.wrap (1 + sizeEs [a] + (if stepTs b 0 < stepTs e 0 then stepTs e 0 else stepTs b 0)) = 1 + sizeEs [a] + (if stepTs b 0 < stepTs e 0 then stepTs e 0 else stepTs b 0) := wrap_small (by split <;> omega) (by split <;> omega)
            rw [hw]
            refine ⟨[], (List.append_nil E).symm, rfl, by rw [List.append_nil]; exact q3, ?_, ?_, by split <;> omega, by split <;> omega⟩
            · refine ((hA1.trans g6).trans q6).eq ?_ ?_ ?_
              · simp [readsT, cells, Bool.or_assoc]
              · have := g6.m0; have := q6.m0; simp only [mdT, show mdK 6 = 0 from rfl]; omega
              · simp [hasT]
            · rw [hsize]
              unfold Rm at g7 q7 ⊢
              split <;> split <;> omega
      · left
        rw [h2]
        have hf1 : C.2.ft = some (f, q) := by rw [hC2]; exact h1
        exact Fa.block ⟨f, q, hf, cloop_ft b [] 0 _ hf1, blockK_ft (st := (f, q)) hf b E _ rfl⟩ e [] 0 E
    · -- for
      have k1 : ¬ k = 1 := by omega
      have k6 : ¬ k = 6 := by omega
      have e1 : (cstmt (.mk k s [] n b [] p) cs) = if 64 < n then (1, (cs.declare s 1 p).fail 11 p) else (1 + n * (if 2049 < 1 + (cloop b [s] 0 (cs.declare s 1 p)).1 then 2049 else 1 + (cloop b [s] 0 (cs.declare s 1 p)).1), (cloop b [s] 0 (cs.declare s 1 p)).2) := by rw [cstmt, if_neg k1, if_neg k6, if_pos hk]
      have e2 : (stmtK (.mk k s [] n b [] p) E S) = (E, (blockK b (E ++ [(s, 1)]) (if 64 < n then ⟨(S.declare s p).dl, failF (S.declare s p).ft 11 p⟩ else S.declare s p)).2) := by rw [stmtK, if_neg k1, if_neg k6, if_pos hk]
      have e3 : stepT (.mk k s [] n b [] p) = IntKind.i64.wrap (1 + IntKind.i64.wrap (n * IntKind.i64.wrap (1 + stepTs b 0))) := by rw [stepT_eq]; rw [if_pos (show ((Stmt.mk k s [] n b [] p).k = 7 ∨ (Stmt.mk k s [] n b [] p).k = 8) from hk), if_neg (show ¬ (Stmt.mk k s [] n b [] p).k = 6 from k6)]; rfl
      unfold StG
      rw [e1, e2, e3]
      rcases declare_eq hs s 1 p (by decide) with g | ⟨g1, g2, g3⟩
      · left
        obtain ⟨c, q, hc, h1, h2⟩ := g
        by_cases hn64 : 64 < n
        · rw [if_pos hn64, if_pos hn64, h2, failF_ne (st := (c, q)) hc]
          dsimp only
          rw [fail_some h1]
          exact ⟨c, q, hc, h1, blockK_ft (st := (c, q)) hc b _ _ rfl⟩
        · rw [if_neg hn64, if_neg hn64]
          exact Fa.block ⟨c, q, hc, h1, h2⟩ b [s] 0 _
      · by_cases hn64 : 64 < n
        · left
          rw [if_pos hn64, if_pos hn64, g2.sf, failF_0]
          dsimp only
          exact ⟨11, p, by decide, fail_none_ft g2.ft _ _, blockK_ft (st := (11, p)) (show (11 : Int) ≠ 0 by decide) b _ _ rfl⟩
        · rw [if_neg hn64, if_neg hn64]
          rcases loop_same b hb fb (by omega) [s] 0 0 _ E [(s, 1)] _ g2 rfl (.inl ⟨rfl, by omega⟩) (by omega) (by omega) with q | ⟨L1, _, _, q3, _, _, q6, q7, q8⟩
          · exact .inl q
          · right
            have hm : 0 ≤ n * (1 + stepTs b 0) ∧ n * (1 + stepTs b 0) ≤ 64 * 1073741825 := ⟨Int.mul_nonneg hn.1 (by omega), Int.le_trans (Int.mul_le_mul_of_nonneg_right (b := 64) (by omega) (by omega)) (Int.mul_le_mul_of_nonneg_left (by omega) (by omega))⟩
            have w1 : IntKind.i64.wrap (1 + stepTs b 0) = 1 + stepTs b 0 := wrap_small (by omega) (by omega)
            have w2 : IntKind.i64.wrap (n * (1 + stepTs b 0)) = n * (1 + stepTs b 0) := wrap_small (by omega) (by omega)
            have w3 : IntKind.i64.wrap (1 + n * (1 + stepTs b 0)) = 1 + n * (1 + stepTs b 0) := wrap_small (by omega) (by omega)
            rw [w1, w2, w3]
            refine ⟨[], (List.append_nil E).symm, by rw [if_neg (show ¬ (Stmt.mk k s [] n b [] p).k = 1 from k1)]; rfl, by rw [List.append_nil]; exact q3, ?_, q7.loop hn.1 (by omega), by omega, by omega⟩
            have hA : Aft cs (cs.declare s 1 p) false 0 false := by rw [g1]; exact Aft.same rfl rfl rfl
            refine (hA.trans q6).eq ?_ ?_ ?_
            · simp [readsT, readsTs, cells]
            · have := q6.m0; rw [mdT, mdK, if_neg (by omega), if_neg (by omega), mdTs]; omega
            · rw [hasT, hasTs]; simp; omega
theorem loop_same : ∀ (l : List Stmt), fitTs l → fineTs l → szt l < 900000 → ∀ (also : List Bytes) (n r : Int) (cs : CS) (E0 L0 : Env) (S : KS), Sy cs (E0 ++ L0) S → L0.map (·.1) = also → Rm n r → 0 ≤ r → r ≤ 1073741824 → Fa (cloop l also n cs).2 (blockK l (E0 ++ L0) S).2 ∨ LpG l also n r cs E0 L0 S
  | [], _, _, _, also, n, r, cs, E0, L0, S, hs, hl, hr, r0, r1 => by
    right
    have hd := hs.dels hl
    have e := dels_same also cs
    refine ⟨[], by rw [blockK, List.append_nil], rfl, hd, by rw [List.append_nil]; exact hs.ne, ?_, ?_, hr, r0, r1⟩
    · rw [List.append_nil]; intro p hp; rw [cloop]; dsimp only; rw [e]; exact hs.ut p hp
    · rw [cloop]; dsimp only; rw [e]; exact Aft.same rfl rfl rfl
  | s :: l, hfit, hfine, hsz, also, n, r, cs, E0, L0, S, hs, hl, hr, r0, r1 => by
    have hsz2 : szT s + szt l < 900000 := hsz
    unfold fineTs at hfine
    unfold LpG
    rw [cloop, blockK]
    rcases stmt_same s hfit.1 hfine.1 (by omega) cs (E0 ++ L0) S hs with h | ⟨L1, h1, h2, h3, h4, h5, h6, h7⟩
    · left
      obtain ⟨c, a, hc, h1, h2⟩ := h
      rw [h1, Option.isSome_some, if_pos rfl]
      exact ⟨c, a, hc, h1, blockK_ft (st := (c, a)) hc l _ _ h2⟩
    · rw [h3.ft, Option.isSome_none, if_neg (by decide)]
      have hal : (L0 ++ L1).map (·.1) = (if s.k = 1 then also ++ [s.s] else also) := by
        rw [List.map_append, h2, hl]
        split
        · rfl
        · rw [List.append_nil]
      rw [h1, List.append_assoc]
      rw [List.append_assoc] at h3
      have hw : IntKind.i64.wrap (r + stepT s) = r + stepT s := wrap_small (by omega) (by omega)
      have hst : stepTs (s :: l) r = stepTs l (if 1073741824 < r + stepT s then 1073741824 else r + stepT s) := by rw [stepTs, hw]
      rw [hst]
      rcases loop_same l hfit.2 hfine.2 (by omega) _ (n + (cstmt s cs).1) (if 1073741824 < r + stepT s then 1073741824 else r + stepT s) (cstmt s cs).2 E0 (L0 ++ L1) (stmtK s (E0 ++ L0) S).2 h3 hal (hr.add h5 r0 h6) (by split <;> omega) (by split <;> omega) with g | ⟨L, g1, g2, g3, g4, g5, g6, g7, g8⟩
      · exact .inl g
      · right
        refine ⟨L1 ++ L, ?_, ?_, g3, ?_, ?_, ?_, g7, g8⟩
        · rw [g1]; simp
        · rw [List.map_append, h2, g2, lets]
          split <;> rfl
        · rw [show E0 ++ L0 ++ (L1 ++ L) = E0 ++ (L0 ++ L1) ++ L by simp]; exact g4
        · rw [show E0 ++ L0 ++ (L1 ++ L) = E0 ++ (L0 ++ L1) ++ L by simp]; exact g5
        · exact (h4.trans g6).eq (by rw [readsTs]) (by rw [mdTs]) (by rw [hasTs])
end
end Go.Proofs.Ytphjldhdnmoolaa.A
/- The walks of some functions over the abstract machine. -/
namespace Go.Proofs.Ytphjldhdnmoolaa.A
open Go
/-! the checker and the document's answer: definitions -/
theorem decl_ft {p : Int × Int} : ∀ (l : List Bytes) (cs : CS), cs.ft = some p → decl l cs = cs
  | [], cs, h => rfl
  | x :: l, cs, h => by rw [decl, declare_fts h]; exact decl_ft l cs h
theorem declK_ft {st : Int × Int} (hn : st.1 ≠ 0) : ∀ (l : List Bytes) (E : Env) (S : KS), S.ft = st → (declK l E S).2.ft = st
  | [], E, S, h => h
  | x :: l, E, S, h => by rw [declK]; exact declK_ft hn l _ _ (by rw [Kdeclare_ft (by rw [h]; exact hn)]; exact h)
theorem needsK_ft {st : Int × Int} (hn : st.1 ≠ 0) (w : Int) (E : Env) : ∀ (l : List Expr) (n : Int), (needsK w l E n st).2 = st
  | [], n => rfl
  | e :: l, n => by rw [needsK, needE_ft E hn]; exact needsK_ft hn w E l _
theorem needsK_fst (w : Int) (E : Env) : ∀ (l : List Expr) (n : Int) (st : Int × Int), 0 ≤ n → n + szs l ≤ 2000000000 → (needsK w l E n st).1 = n + sizeEs l
  | [], n, st, _, _ => by simp [needsK, sizeEs]
  | e :: l, n, st, h0, h1 => by
    rw [szs] at h1
    have := sizeE_bd e
    have hw : IntKind.i64.wrap (n + sizeE e) = n + sizeE e := wrap_small (by omega) (by omega)
    rw [needsK, hw, needsK_fst w E l _ _ (by omega) (by omega), sizeEs]; omega
theorem needs_same {E : Env} {w : Int} : ∀ (l : List Expr), fitEs l → ∀ (cs : CS) (n : Int), OkE cs E →
    ((cargs l w cs).2 = { cs with rd := cs.rd || cells l } ∧ (needsK w l E n (0, 0)).2 = (0, 0)) ∨ ∃ c a, c ≠ 0 ∧ (cargs l w cs).2.ft = some (c, a) ∧ (needsK w l E n (0, 0)).2 = (c, a)
  | [], _, cs, n, h => .inl ⟨(rd_same cs _ rfl).symm, rfl⟩
  | e :: l, hf, cs, n, h => by
    rw [cargs_cons, needsK]
    dsimp only
    rcases want_same (w := w) hf.1 h with ⟨h1, h2⟩ | ⟨c, a, hc, h1, h2⟩
    · rw [h1, h2]
      rcases needs_same l hf.2 { cs with rd := cs.rd || cellsE e } (IntKind.i64.wrap (n + sizeE e)) (h.rd _) with ⟨g1, g2⟩ | g
      · exact .inl ⟨by rw [g1, cells, Bool.or_assoc], g2⟩
      · exact .inr g
    · rw [h2]
      exact .inr ⟨c, a, hc, cargs_ft l w _ h1, needsK_ft (st := (c, a)) hc w E l _⟩
theorem decl_same : ∀ (l : List Bytes) (cs : CS) (E : Env) (S : KS), Sy cs E S → Fa (decl l cs) (declK l E S).2 ∨ (Sy (decl l cs) (declK l E S).1 (declK l E S).2 ∧ Aft cs (decl l cs) false 0 false)
  | [], cs, E, S, h => .inr ⟨h, Aft.same rfl rfl rfl⟩
  | p :: l, cs, E, S, h => by
    rw [decl, declK]
    rcases declare_eq h p 1 0 (by decide) with ⟨c, a, hc, h1, h2⟩ | ⟨g1, g2, g3⟩
    · left
      refine ⟨c, a, hc, ?_, declK_ft (st := (c, a)) hc l _ _ h2⟩
      rw [decl_ft l _ h1]; exact h1
    · rcases decl_same l _ _ _ g2 with g | ⟨g, k⟩
      · exact .inl g
      · have hA : Aft cs (cs.declare p 1 0) false 0 false := by rw [g1]; exact Aft.same rfl rfl rfl
        exact .inr ⟨g, (hA.trans k).eq rfl rfl rfl⟩
theorem repl_get {s x : Bytes} {v : Int} : ∀ {l : List Ent}, getM x (repl s v l) = if x = s ∧ getM s l ≠ none then some v else getM x l
  | [] => by simp [repl, getM]
  | e :: l => by
    rw [repl]
    by_cases h : s = e.1
    · rw [if_pos h, getM]
      by_cases hx : x = s
      · rw [if_pos hx, if_pos ⟨hx, by rw [getM, if_pos h]; simp⟩]
      · rw [if_neg hx, if_neg (fun y => hx y.1), getM, if_neg (by rw [← h]; exact hx)]
    · rw [if_neg h, getM, getM, getM, if_neg h]
      by_cases hx : x = e.1
      · rw [if_pos hx, if_pos hx, if_neg (fun (y : x = s ∧ _) => h (y.1 ▸ hx))]
      · rw [if_neg hx, if_neg hx]; exact repl_get
theorem putM_get {s x : Bytes} {v : Int} {l : List Ent} {c : Nat} : getM x (putM s v l c).1 = if x = s then some v else getM x l := by
  unfold putM
  cases h : getM s l with
  | some u => dsimp only; rw [repl_get, h]; simp
  | none =>
    dsimp only
    rw [getM_cat]
    by_cases hx : x = s
    · subst hx; rw [h, if_pos rfl]; simp [getM]
    · rw [if_neg hx]
      cases getM x l <;> simp [getM, hx]
theorem relet_same : ∀ (l : List Stmt) (cs : CS) (E L : Env), cs.ft = none → L.map (·.1) = lets l → (∀ p ∈ L, getM p.1 cs.us = some p.2) → (∀ s, getM s cs.kn = look s E) → ((E ++ L).map (·.1)).Nodup →
    ∃ kn kc, relet l cs = { cs with kn := kn, kc := kc } ∧ ∀ s, getM s kn = look s (E ++ L)
  | [], cs, E, L, hf, hL, hu, hk, hn => by
    cases L with
    | nil => exact ⟨cs.kn, cs.kc, rfl, by rw [List.append_nil]; exact hk⟩
    | cons => cases hL
  | x :: l, cs, E, L, hf, hL, hu, hk, hn => by
    rw [relet]
    rw [lets] at hL
    by_cases h1 : x.k = 1
    · rw [if_pos h1] at hL
      rw [if_pos ⟨h1, hf⟩]
      cases L with
      | nil => cases hL
      | cons p L =>
        rw [List.map_cons] at hL
        obtain ⟨hp, hL2⟩ := List.cons.inj hL
        have hg := hu p (List.mem_cons_self ..)
        rw [hp] at hg
        rw [hg]
        have hn2 : ((E ++ [p] ++ L).map (·.1)).Nodup := by rw [List.append_assoc]; exact hn
        obtain ⟨kn, kc, h2, h3⟩ := relet_same l { cs with kn := (putM x.s p.2 cs.kn cs.kc).1, kc := (putM x.s p.2 cs.kn cs.kc).2 } (E ++ [p]) L hf hL2 (fun q hq => hu q (List.mem_cons_of_mem _ hq)) (fun s => by
          dsimp only
          rw [putM_get, look_app, hk s]
          rw [List.map_append, List.nodup_append] at hn
          by_cases hs : s = x.s
          · rw [if_pos hs]
            have : look s E = none := look_none.2 fun hm => hn.2.2 s hm p.1 (by simp) (by rw [hs, hp])
            rw [this]; simp [look, hs, hp]
          · rw [if_neg hs]
            have : look s [p] = none := by simp [look, hp]; exact fun e => hs e.symm
            rw [this]
            cases look s E <;> rfl) hn2
        exact ⟨kn, kc, h2, by rw [List.append_assoc] at h3; exact h3⟩
    · rw [if_neg h1] at hL
      rw [if_neg (fun y => h1 y.1)]
      exact relet_same l cs E L hf hL hu hk hn
theorem relet_ft {p : Int × Int} : ∀ (l : List Stmt) (cs : CS), cs.ft = some p → relet l cs = cs
  | [], cs, h => rfl
  | x :: l, cs, h => by rw [relet, if_neg (by rw [h]; simp)]; exact relet_ft l cs h
def mdB (a b c : Bool) : Int := if a || b then 3 else if c then 2 else 0
theorem mdB_max (a b c x y z : Bool) : max (mdB a b c) (mdB x y z) = mdB (a || x) (b || y) (c || z) := by
  cases a <;> cases b <;> cases c <;> cases x <;> cases y <;> cases z <;> rfl
theorem mdK_eq (k : Int) : mdK k = mdB (decide (2 ≤ k) && decide (k ≤ 2)) (decide (5 ≤ k) && decide (k ≤ 5)) (decide (2 ≤ k) && decide (k ≤ 5)) := by
  unfold mdK mdB
  by_cases h2 : k = 2
  · subst h2; rfl
  by_cases h5 : k = 5
  · subst h5; rfl
  by_cases h3 : k = 3
  · subst h3; rfl
  by_cases h4 : k = 4
  · subst h4; rfl
  have e1 : (decide (2 ≤ k) && decide (k ≤ 2)) = false := by simp; omega
  have e2 : (decide (5 ≤ k) && decide (k ≤ 5)) = false := by simp; omega
  have e3 : (decide (2 ≤ k) && decide (k ≤ 5)) = false := by simp; omega
  rw [e1, e2, e3, if_neg (by omega), if_neg (by omega)]; rfl
mutual
theorem mdT_eq : ∀ s : Stmt, mdT s = mdB (hasT 2 2 s) (hasT 5 5 s) (hasT 2 5 s)
  | .mk k s x n b e p => by
    rw [mdT, mdTs_eq b, mdTs_eq e, mdB_max, mdK_eq, mdB_max, hasT, hasT, hasT]
theorem mdTs_eq : ∀ l : List Stmt, mdTs l = mdB (hasTs 2 2 l) (hasTs 5 5 l) (hasTs 2 5 l)
  | [] => rfl
  | s :: l => by rw [mdTs, mdT_eq s, mdTs_eq l, mdB_max, hasTs, hasTs, hasTs]
end
mutual
theorem hasT_sub {a b c e : Int} (h1 : c ≤ a) (h2 : b ≤ e) : ∀ s : Stmt, hasT a b s = true → hasT c e s = true
  | .mk k s x n l m p => by
    have i1 := hasTs_sub h1 h2 l
    have i2 := hasTs_sub h1 h2 m
    rw [hasT, hasT]
    simp only [Bool.or_eq_true, Bool.and_eq_true, decide_eq_true_eq]
    rintro (⟨h3, h4⟩ | h | h)
    · exact .inl ⟨by omega, by omega⟩
    · exact .inr (.inl (i1 h))
    · exact .inr (.inr (i2 h))
theorem hasTs_sub {a b c e : Int} (h1 : c ≤ a) (h2 : b ≤ e) : ∀ l : List Stmt, hasTs a b l = true → hasTs c e l = true
  | [] => id
  | s :: l => by
    have i1 := hasT_sub h1 h2 s
    have i2 := hasTs_sub h1 h2 l
    rw [hasTs, hasTs]
    simp only [Bool.or_eq_true]
    exact fun h => h.elim (fun h => .inl (i1 h)) (fun h => .inr (i2 h))
end
theorem sy0 : Sy cs0 [] KS0 := ⟨cs0_ok, rfl, rfl, rfl, fun _ => rfl, by simp, by simp, by simp, by simp⟩
/-- The end of `check` where a fault has been found. -/
theorem check_ft {d : Def} {c a : Int} (h : (chkG d).2.ft = some (c, a)) : check d = (Info0, some (c, a)) := by
  have h1 : (chkM (chkN d).2.rd (chkG d).2).ft = some (c, a) := by unfold chkM; split <;> exact h
  have h2 : (chkF d).ft = some (c, a) := by
    unfold chkF; split
    · rw [fail_some h1]; exact h1
    · exact h1
  unfold check; rw [h2]
theorem chkG_ft {d : Def} {p : Int × Int} (h : (chkB d).2.ft = some p) : (chkG d).2.ft = some p := by
  have h1 : (chkT (chkB d).2).ft = some p := by unfold chkT; split <;> exact h
  unfold chkG
  rw [relet_ft _ _ h1]
  exact cargs_ft _ _ _ h1
theorem chkB_ft {d : Def} {p : Int × Int} (h : (chkN d).2.ft = some p) : (chkB d).2.ft = some p := by unfold chkB; exact cloop_ft _ _ _ _ h
theorem rcheck_ft {d : Def} {c a : Int} (h8 : ¬ 8 < d.params.length) (hc : c ≠ 0) (h : (rG d).2 = (c, a)) : rcheck d = (Info0, c, a) := by
  have h1 : rF d = (c, a) := by unfold rF; rw [h]; split; exact failF_ne (st := (c, a)) hc _ _; rfl
  unfold rcheck; rw [if_neg h8, h1, if_pos hc]

theorem md_end (g : CS) (q1 q2 q3 q4 q5 q6 : Bool) (h1 : q1 = true → q3 = true) (h2 : q2 = true → q3 = true) : (if ((q4 || q6) || q5) && decide (max 1 (mdB q1 q2 q3) = 2) then ({ g with rd := (q4 || q6) || q5, md := 3 } : CS) else { g with rd := (q4 || q6) || q5, md := max 1 (mdB q1 q2 q3) }).md = if q3 then (if !q1 && (!q2 && !(q4 || (q5 || q6))) then 2 else 3) else 1 := by
  cases q1 <;> cases q2 <;> cases q3 <;> cases q4 <;> cases q5 <;> cases q6 <;> first | rfl | (exact absurd (h1 rfl) (by decide)) | (exact absurd (h2 rfl) (by decide))
theorem check_same {d : Def} (hf : FitD d) (ho : DefOK d) : (check d).1 = (rcheck d).1 ∧ faultP (check d).2 = (rcheck d).2 ∧ (((check d).2 = none ∧ 0 ≤ (rG d).1) ∨ ∃ c a, c ≠ 0 ∧ (check d).2 = some (c, a)) := by
  have hsz := ho.size
  by_cases h8 : 8 < d.params.length
  · have h1 : (chkA d).ft = some (15, 0) := by
      unfold chkA; rw [if_pos h8]
      rw [decl_ft (p := (15, 0)) _ _ rfl]; rfl
    have h2 : (chkN d).2.ft = some (15, 0) := by unfold chkN; exact cargs_ft _ _ _ h1
    rw [check_ft (chkG_ft (chkB_ft h2)), rcheck, if_pos h8]
    exact ⟨rfl, rfl, .inr ⟨15, 0, by decide, rfl⟩⟩
  have fin : ∀ c a, c ≠ 0 → (chkG d).2.ft = some (c, a) → (rG d).2 = (c, a) → (check d).1 = (rcheck d).1 ∧ faultP (check d).2 = (rcheck d).2 ∧ (((check d).2 = none ∧ 0 ≤ (rG d).1) ∨ ∃ c a, c ≠ 0 ∧ (check d).2 = some (c, a)) := fun c a hc h1 h2 => by
    rw [check_ft h1, rcheck_ft h8 hc h2]; exact ⟨rfl, rfl, .inr ⟨c, a, hc, rfl⟩⟩
  have hA : chkA d = decl d.params cs0 := by unfold chkA; rw [if_neg h8]
  have hbf : ∀ (c a : Int), c ≠ 0 → (rB d).2.ft = (c, a) → (rG d).2 = (c, a) := fun c a hc h => by
    unfold rG; rw [h]; exact needsK_ft (st := (c, a)) hc 1 _ _ _
  have hnf : ∀ (c a : Int), c ≠ 0 → (rN d).2 = (c, a) → (rG d).2 = (c, a) := fun c a hc h => hbf c a hc (by
    unfold rB; exact blockK_ft (st := (c, a)) hc _ _ _ h)
  rcases decl_same d.params cs0 [] KS0 sy0 with ⟨c, a, hc, h1, h2⟩ | ⟨hs, haft⟩
  · rw [← hA] at h1
    exact fin c a hc (chkG_ft (chkB_ft (cargs_ft _ _ _ h1))) (hnf c a hc (by unfold rN rP; rw [h2]; exact needsK_ft (st := (c, a)) hc 2 _ _ _))
  rw [← hA] at hs haft
  have hs : Sy (chkA d) (rP d).1 (rP d).2 := hs
  rcases needs_same (w := 2) d.needs hf.needs (chkA d) (stepTs d.body 0) hs.oke with ⟨n1, n2⟩ | ⟨c, a, hc, h1, h2⟩
  rotate_left
  · exact fin c a hc (chkG_ft (chkB_ft h1)) (hnf c a hc (by unfold rN; rw [hs.sf]; exact h2))
  have hn1 : (chkN d).2 = { chkA d with rd := (chkA d).rd || cells d.needs } := n1
  have hn2 : (rN d).2 = (0, 0) := by unfold rN; rw [hs.sf]; exact n2
  have hs2 : Sy { (chkN d).2 with rd := false } ((rP d).1 ++ []) ⟨(rP d).2.dl, (rN d).2⟩ := by
    rw [hn1, List.append_nil]; exact ((hs.rd _).rd false).st hn2
  have hlp := loop_same d.body hf.body ho.fine (by omega) [] 0 0 _ (rP d).1 [] _ hs2 rfl (.inl ⟨rfl, by omega⟩) (by omega) (by omega)
  unfold LpG at hlp
  simp only [List.append_nil] at hlp
  have hBe : blockK d.body (rP d).1 ⟨(rP d).2.dl, (rN d).2⟩ = rB d := rfl
  have hCe : cloop d.body [] 0 { (chkN d).2 with rd := false } = chkB d := rfl
  rw [hBe, hCe] at hlp
  rcases hlp with ⟨c, a, hc, h1, h2⟩ | ⟨L, b1, b2, b3, b4, b5, b6, b7, b8⟩
  · exact fin c a hc (chkG_ft h1) (hbf c a hc h2)
  -- the top block's names again
  have hT : chkT (chkB d).2 = { (chkB d).2 with tn := (chkB d).2.tn && !(chkB d).2.rd } := by
    unfold chkT
    cases h : (chkB d).2.rd
    · simp only [Bool.false_eq_true, if_false, Bool.not_false, Bool.and_true]
    · simp [h]
  obtain ⟨kn, kc, r1, r2⟩ := relet_same d.body (chkT (chkB d).2) (rP d).1 L (by rw [hT]; exact b3.ft) b2 (fun p hp => by rw [hT]; exact b5 p (List.mem_append_right _ hp)) (fun s => by rw [hT]; exact b3.kn s) b4
  have hoke : OkE (relet d.body (chkT (chkB d).2)) ((rP d).1 ++ L) := by
    rw [r1, hT]
    refine ⟨b3.ft, r2, fun s v hv => ?_⟩
    have hm := b5 _ (look_mem hv)
    obtain ⟨e, e1, e2, e3⟩ := getM_mem hm
    dsimp only at e3
    rw [← e3]; exact b3.ok.pos e e1
  have gsame := needs_same (w := 1) d.give hf.give _ (rN d).1 hoke
  rw [← b1] at gsame
  rcases gsame with ⟨g1, g2⟩ | ⟨c, a, hc, h1, h2⟩
  rotate_left
  · exact fin c a hc h1 (by unfold rG; rw [b3.sf]; exact h2)
  have hg1 : (chkG d).2 = { relet d.body (chkT (chkB d).2) with rd := (relet d.body (chkT (chkB d).2)).rd || cells d.give } := g1
  have hg2 : (rG d).2 = (0, 0) := by unfold rG; rw [b3.sf]; exact g2
  -- steps
  have s1 : (chkN d).1 = sizeEs d.needs := cargs_size _ hf.needs _ _
  have s2 : (chkG d).1 = sizeEs d.give := cargs_size _ hf.give _ _
  have z1 := sizeEs_bd d.needs
  have z2 := sizeEs_bd d.give
  have s3 : (rN d).1 = stepTs d.body 0 + sizeEs d.needs := needsK_fst _ _ _ _ _ (by omega) (by omega)
  have s4 : (rG d).1 = stepTs d.body 0 + sizeEs d.needs + sizeEs d.give := by unfold rG; rw [needsK_fst _ _ _ _ _ (by omega) (by omega), s3]
  have s5 : chkSteps d = sizeEs d.needs + sizeEs d.give + (chkB d).1 := by unfold chkSteps; rw [s1, s2]
  have hgft : (chkG d).2.ft = none := by rw [hg1, r1, hT]; exact b3.ft
  have hMft : (chkM (chkN d).2.rd (chkG d).2).ft = none := by unfold chkM; split <;> exact hgft
  have hstep : (2048 < chkSteps d ↔ 2048 < (rG d).1) ∧ (¬ 2048 < chkSteps d → chkSteps d = (rG d).1) := by
    unfold Rm at b7
    omega
  by_cases hbig : 2048 < chkSteps d
  · have h1 : (chkF d).ft = some (11, 0) := by unfold chkF; rw [if_pos hbig]; exact fail_none_ft hMft _ _
    have h2 : rF d = (11, 0) := by unfold rF; rw [if_pos (hstep.1.1 hbig), hg2, failF_0]
    unfold check rcheck
    rw [h1, h2, if_neg h8, if_pos (by decide)]
    exact ⟨rfl, rfl, .inr ⟨11, 0, by decide, rfl⟩⟩
  · have h1 : chkF d = chkM (chkN d).2.rd (chkG d).2 := by unfold chkF; rw [if_neg hbig]
    have h2 : rF d = (0, 0) := by unfold rF; rw [if_neg (fun h => hbig (hstep.1.2 h)), hg2]
    unfold check rcheck
    rw [h1, hMft, h2, if_neg h8, if_neg (by decide)]
    refine ⟨?_, rfl, .inl ⟨rfl, by rw [s4]; omega⟩⟩
    dsimp only
    -- the state at the end
    have a1 : (chkA d).rd = false := by rw [haft.rd]; rfl
    have a2 : (chkA d).md = 1 := by rw [haft.md (by decide)]; rfl
    have a3 : (chkA d).tn = true := by rw [haft.tn]; rfl
    have c1 : (chkB d).2.rd = readsTs d.body := by rw [b6.rd]; simp
    have c2 : (chkB d).2.md = max 1 (mdTs d.body) := by rw [b6.md (by rw [hn1, a2]; decide), hn1, a2]
    have c3 : (chkB d).2.tn = !hasTs 2 2 d.body := by rw [b6.tn, hn1, a3]; simp
    have d1 : (chkG d).2.rd = (readsTs d.body || cells d.give) := by rw [hg1, r1, hT, c1]
    have d2 : (chkG d).2.md = max 1 (mdTs d.body) := by rw [hg1, r1, hT]; exact c2
    have d3 : (chkG d).2.tn = (!hasTs 2 2 d.body && !readsTs d.body) := by rw [hg1, r1, hT]; dsimp only; rw [c3, c1]
    have d4 : (chkG d).2.us = (chkB d).2.us := by rw [hg1, r1, hT]
    have d5 : (chkN d).2.rd = cells d.needs := by rw [hn1, a1]; simp
    have u1 : ((chkB d).2.us.length : Int) = (rB d).2.dl.length := by rw [← b3.us, List.length_map]
    have m1 : (chkM (chkN d).2.rd (chkG d).2).md = rMode d := by
      unfold chkM rMode
      rw [d1, d5, d2, mdTs_eq]
      have hh : hasTs 2 2 d.body = true → hasTs 2 5 d.body = true := hasTs_sub (by omega) (by omega) d.body
      have hh5 : hasTs 5 5 d.body = true → hasTs 2 5 d.body = true := hasTs_sub (by omega) (by omega) d.body
      exact md_end _ _ _ _ _ _ _ hh hh5
    have m2 : (chkM (chkN d).2.rd (chkG d).2).tn = (!hasTs 2 2 d.body && !readsTs d.body) := by
      rw [← d3]; unfold chkM; split <;> rfl
    have m3 : (chkM (chkN d).2.rd (chkG d).2).us = (chkB d).2.us := by
      rw [← d4]; unfold chkM; split <;> rfl
    rw [m1, m2, m3, u1, hstep.2 hbig]
end Go.Proofs.Ytphjldhdnmoolaa.A
/- The walks of some functions over the abstract machine. -/
namespace Go.Proofs.Ytphjldhdnmoolaa.A
open Go
/-! names with others in their place: what is found -/
set_option linter.unusedSectionVars false
mutual
theorem sizeE_nm (φ : Bytes → Bytes) : ∀ e : Expr, sizeE (nE φ e) = sizeE e
  | .mk k n s a p => by rw [nE, sizeE, sizeE, sizeEs_nm φ a]
theorem sizeEs_nm (φ : Bytes → Bytes) : ∀ l : List Expr, sizeEs (nEs φ l) = sizeEs l
  | [] => rfl
  | e :: l => by rw [nEs, sizeEs, sizeEs, sizeE_nm φ e, sizeEs_nm φ l]
end
mutual
theorem cellsE_nm (φ : Bytes → Bytes) : ∀ e : Expr, cellsE (nE φ e) = cellsE e
  | .mk k n s a p => by rw [nE, cellsE, cellsE, cells_nm φ a]
theorem cells_nm (φ : Bytes → Bytes) : ∀ l : List Expr, cells (nEs φ l) = cells l
  | [] => rfl
  | e :: l => by rw [nEs, cells, cells, cellsE_nm φ e, cells_nm φ l]
end
mutual
theorem stepT_nm (φ : Bytes → Bytes) : ∀ s : Stmt, stepT (nT φ s) = stepT s
  | .mk k s x n b e p => by rw [nT, stepT, stepT, sizeEs_nm φ x, stepTs_nm φ b, stepTs_nm φ e]
theorem stepTs_nm (φ : Bytes → Bytes) : ∀ (l : List Stmt) (n : Int), stepTs (nTs φ l) n = stepTs l n
  | [], n => rfl
  | s :: l, n => by rw [nTs, stepTs, stepTs, stepT_nm φ s, stepTs_nm φ l]
end
mutual
theorem hasT_nm (φ : Bytes → Bytes) (a b : Int) : ∀ s : Stmt, hasT a b (nT φ s) = hasT a b s
  | .mk k s x n c e p => by rw [nT, hasT, hasT, hasTs_nm φ a b c, hasTs_nm φ a b e]
theorem hasTs_nm (φ : Bytes → Bytes) (a b : Int) : ∀ l : List Stmt, hasTs a b (nTs φ l) = hasTs a b l
  | [] => rfl
  | s :: l => by rw [nTs, hasTs, hasTs, hasT_nm φ a b s, hasTs_nm φ a b l]
end
mutual
theorem readsT_nm (φ : Bytes → Bytes) : ∀ s : Stmt, readsT (nT φ s) = readsT s
  | .mk k s x n c e p => by rw [nT, readsT, readsT, cells_nm φ x, readsTs_nm φ c, readsTs_nm φ e]
theorem readsTs_nm (φ : Bytes → Bytes) : ∀ l : List Stmt, readsTs (nTs φ l) = readsTs l
  | [] => rfl
  | s :: l => by rw [nTs, readsTs, readsTs, readsT_nm φ s, readsTs_nm φ l]
end
theorem failF_1 {st st' : Int × Int} (h : st.1 = st'.1) (c a a' : Int) : (failF st c a).1 = (failF st' c a').1 := by
  unfold failF; rw [h]; split
  · rfl
  · exact h
section
variable {φ : Bytes → Bytes} (hφ : PH φ)
include hφ
def rnm (φ : Bytes → Bytes) (E : Env) : Env := E.map fun p => (φ p.1, p.2)
theorem look_nm (s : Bytes) : ∀ E : Env, look (φ s) (rnm φ E) = look s E
  | [] => rfl
  | p :: E => by
    rw [rnm, List.map_cons, look, look]
    by_cases h : p.1 = s
    · rw [if_pos h, if_pos (by dsimp only; rw [h])]
    · rw [if_neg h, if_neg (fun x => h ((hφ.inj _ _).1 x))]; exact look_nm s E
theorem nm_tf (s : Bytes) : (φ s = qTrue ∨ φ s = qFalse) ↔ (s = qTrue ∨ s = qFalse) := by
  rw [hφ.k s qTrue (by decide), hφ.k s qFalse (by decide)]
mutual
theorem kindE_nm : ∀ (e e' : Expr) (E : Env) (st st' : Int × Int), nE φ e = nE id e' → st.1 = st'.1 → (kindE e E st).1 = (kindE e' (rnm φ E) st').1 ∧ (kindE e E st).2.1 = (kindE e' (rnm φ E) st').2.1
  | .mk k n s a p, .mk k' n' s' a' p', E, st, st', he, hs => by
    rw [nE, nE, Expr.mk.injEq] at he
    obtain ⟨rfl, rfl, hss, hal, _⟩ := he
    have ha := kindA_nm a a' k s s' E 0 [] st st' hal (fun h6 => by simpa [h6] using hss) hs
    rw [kindE, kindE]
    by_cases k2 : k = 2
    · rw [if_pos k2, if_pos k2]
      rw [if_pos k2, if_pos k2] at hss
      have hs2 : φ s = s' := hss
      subst hs2
      by_cases ht : s = qTrue ∨ s = qFalse
      · rw [if_pos ht, if_pos ((nm_tf hφ s).2 ht)]; exact ⟨rfl, ha⟩
      · rw [if_neg ht, if_neg (fun x => ht ((nm_tf hφ s).1 x)), look_nm hφ]
        split
        · exact ⟨rfl, ha⟩
        · exact ⟨rfl, failF_1 ha _ _ _⟩
    · rw [if_neg k2, if_neg k2]
      rw [if_neg k2, if_neg k2] at hss
      subst hss
      split
      · exact ⟨rfl, ha⟩
      · split <;> exact ⟨rfl, ha⟩
theorem kindA_nm : ∀ (l l' : List Expr) (k : Int) (s s' : Bytes) (E : Env) (i : Nat) (T : List Int) (st st' : Int × Int), nEs φ l = nEs id l' → (k = 6 → s = s') → st.1 = st'.1 → (kindA k s l E i T st).1 = (kindA k s' l' (rnm φ E) i T st').1
  | [], [], k, s, s', E, i, T, st, st', he, h6, hs => hs
  | [], e :: l', k, s, s', E, i, T, st, st', he, h6, hs => by rw [nEs, nEs] at he; cases he
  | e :: l, [], k, s, s', E, i, T, st, st', he, h6, hs => by rw [nEs, nEs] at he; cases he
  | e :: l, e' :: l', k, s, s', E, i, T, st, st', he, h6, hs => by
    rw [nEs, nEs, List.cons.injEq] at he
    have h1 := kindE_nm e e' E st st' he.1 hs
    have hw : wantsP k s i (T ++ [(kindE e E st).1]) = wantsP k s' i (T ++ [(kindE e E st).1]) := by
      unfold wantsP
      by_cases hk6 : k = 6
      · rw [h6 hk6]
      · split
        · rfl
        · first | rfl | rw [if_pos hk6, if_pos hk6]
    rw [kindA, kindA, ← h1.1, ← hw]
    refine kindA_nm l l' k s s' E _ _ _ _ he.2 h6 ?_
    split
    · exact failF_1 h1.2 _ _ _
    · exact h1.2
end
theorem needE_nm {e e' : Expr} (w : Int) (E : Env) {st st' : Int × Int} (he : nE φ e = nE id e') (hs : st.1 = st'.1) : (needE e w E st).1 = (needE e' w (rnm φ E) st').1 := by
  have h1 := kindE_nm hφ e e' E st st' he hs
  unfold needE
  rw [← h1.1]
  split
  · exact h1.2
  · exact failF_1 h1.2 _ _ _
theorem memB_nm (n : Bytes) (l : List Bytes) : memB (φ n) (l.map φ) = memB n l := by
  rw [Bool.eq_iff_iff, memB_iff, memB_iff, List.mem_map]
  constructor
  · rintro ⟨a, ha, e⟩; rw [← (hφ.inj _ _).1 e]; exact ha
  · intro h; exact ⟨n, h, rfl⟩
structure KR (φ : Bytes → Bytes) (S S' : KS) : Prop where
  dl : S'.dl = S.dl.map φ
  ft : S.ft.1 = S'.ft.1
theorem declare_nm {S S' : KS} (h : KR φ S S') (n : Bytes) (a a' : Int) : KR φ (S.declare n a) (S'.declare (φ n) a') := by
  unfold KS.declare
  rw [h.dl, memB_nm hφ, List.length_map]
  split
  · exact ⟨rfl, failF_1 h.ft _ _ _⟩
  · split
    · exact ⟨rfl, failF_1 h.ft _ _ _⟩
    · exact ⟨by simp, h.ft⟩
theorem getD_nm : ∀ (l l' : List Expr) (i : Nat), nEs φ l = nEs id l' → nE φ (l.getD i E0) = nE id (l'.getD i E0)
  | [], [], i, h => by simp only [List.getD_nil]; rw [nE, nE]; rfl
  | [], e :: l', i, h => by rw [nEs, nEs] at h; cases h
  | e :: l, [], i, h => by rw [nEs, nEs] at h; cases h
  | e :: l, e' :: l', 0, h => by rw [nEs, nEs, List.cons.injEq] at h; exact h.1
  | e :: l, e' :: l', i + 1, h => by rw [nEs, nEs, List.cons.injEq] at h; exact getD_nm l l' i h.2
theorem rnm_app (E : Env) (s : Bytes) (t : Int) : rnm φ (E ++ [(s, t)]) = rnm φ E ++ [(φ s, t)] := by unfold rnm; simp
mutual
theorem stmtK_nm : ∀ (s s' : Stmt) (E : Env) (S S' : KS), nT φ s = nT id s' → KR φ S S' → (stmtK s' (rnm φ E) S').1 = rnm φ (stmtK s E S).1 ∧ KR φ (stmtK s E S).2 (stmtK s' (rnm φ E) S').2
  | .mk k s x n b e p, .mk k' s' x' n' b' e' p', E, S, S', he, hS => by
    rw [nT, nT, Stmt.mk.injEq] at he
    obtain ⟨rfl, hss, hx, rfl, hb, hbe, _⟩ := he
    have g0 := getD_nm hφ x x' 0 hx
    have g1 := getD_nm hφ x x' 1 hx
    rw [stmtK, stmtK]
    by_cases k1 : k = 1
    · rw [if_pos k1, if_pos k1]
      rw [if_pos (.inl k1), if_pos (.inl k1)] at hss
      have hs2 : φ s = s' := hss
      subst hs2
      have hk := kindE_nm hφ _ _ E S.ft S'.ft g0 hS.ft
      refine ⟨by rw [rnm_app hφ, hk.1], ?_⟩
      exact declare_nm hφ (S := ⟨S.dl, (kindE (x.getD 0 E0) E S.ft).2⟩) (S' := ⟨S'.dl, (kindE (x'.getD 0 E0) (rnm φ E) S'.ft).2⟩) ⟨hS.dl, hk.2⟩ s p p'
    rw [if_neg k1, if_neg k1]
    by_cases k6 : k = 6
    · rw [if_pos k6, if_pos k6]
      have hn := needE_nm hφ 2 E g0 hS.ft
      have h1 := blockK_nm b b' E ⟨S.dl, needE (x.getD 0 E0) 2 E S.ft⟩ ⟨S'.dl, needE (x'.getD 0 E0) 2 (rnm φ E) S'.ft⟩ hb ⟨hS.dl, hn⟩
      have h2 := blockK_nm e e' E _ _ hbe h1.2
      exact ⟨rfl, h2.2⟩
    rw [if_neg k6, if_neg k6]
    by_cases k7 : k = 7 ∨ k = 8
    · rw [if_pos k7, if_pos k7]
      rw [if_pos (.inr k7), if_pos (.inr k7)] at hss
      have hs2 : φ s = s' := hss
      subst hs2
      have hd := declare_nm hφ hS s p p'
      have h1 := blockK_nm b b' (E ++ [(s, 1)]) (if 64 < n then ⟨(S.declare s p).dl, failF (S.declare s p).ft 11 p⟩ else S.declare s p) (if 64 < n then ⟨(S'.declare (φ s) p').dl, failF (S'.declare (φ s) p').ft 11 p'⟩ else S'.declare (φ s) p') hb (by
        split
        · exact ⟨hd.dl, failF_1 hd.ft _ _ _⟩
        · exact hd)
      rw [rnm_app hφ] at h1
      exact ⟨rfl, h1.2⟩
    · rw [if_neg k7, if_neg k7]
      exact ⟨rfl, hS.dl, needE_nm hφ 1 E g1 (needE_nm hφ 1 E g0 hS.ft)⟩
theorem blockK_nm : ∀ (l l' : List Stmt) (E : Env) (S S' : KS), nTs φ l = nTs id l' → KR φ S S' → (blockK l' (rnm φ E) S').1 = rnm φ (blockK l E S).1 ∧ KR φ (blockK l E S).2 (blockK l' (rnm φ E) S').2
  | [], [], E, S, S', he, hS => ⟨rfl, hS⟩
  | [], s' :: l', E, S, S', he, hS => by rw [nTs, nTs] at he; cases he
  | s :: l, [], E, S, S', he, hS => by rw [nTs, nTs] at he; cases he
  | s :: l, s' :: l', E, S, S', he, hS => by
    rw [nTs, nTs, List.cons.injEq] at he
    have h1 := stmtK_nm s s' E S S' he.1 hS
    rw [blockK, blockK, h1.1]
    exact blockK_nm l l' _ _ _ he.2 h1.2
end
theorem declK_nm : ∀ (l : List Bytes) (E : Env) (S S' : KS), KR φ S S' → (declK (l.map φ) (rnm φ E) S').1 = rnm φ (declK l E S).1 ∧ KR φ (declK l E S).2 (declK (l.map φ) (rnm φ E) S').2
  | [], E, S, S', h => ⟨rfl, h⟩
  | p :: l, E, S, S', h => by
    rw [List.map_cons, declK, declK, ← rnm_app hφ]
    exact declK_nm l _ _ _ (declare_nm hφ h p 0 0)
theorem needsK_nm (w : Int) (E : Env) : ∀ (l l' : List Expr) (n : Int) (st st' : Int × Int), nEs φ l = nEs id l' → st.1 = st'.1 → (needsK w l E n st).1 = (needsK w l' (rnm φ E) n st').1 ∧ (needsK w l E n st).2.1 = (needsK w l' (rnm φ E) n st').2.1
  | [], [], n, st, st', he, hs => ⟨rfl, hs⟩
  | [], s' :: l', n, st, st', he, hS => by rw [nEs, nEs] at he; cases he
  | s :: l, [], n, st, st', he, hS => by rw [nEs, nEs] at he; cases he
  | e :: l, e' :: l', n, st, st', he, hs => by
    rw [nEs, nEs, List.cons.injEq] at he
    have hz : sizeE e = sizeE e' := by rw [← sizeE_nm φ e, he.1, sizeE_nm]
    rw [needsK, needsK, hz]
    exact needsK_nm w E l l' _ _ _ he.2 (needE_nm hφ w E he.1 hs)
theorem rcheck_nm {d d' : Def} (h : nD φ d = nD id d') : (rcheck d).1 = (rcheck d').1 ∧ (rcheck d).2.1 = (rcheck d').2.1 := by
  obtain ⟨nm, ps, nd, bd, gv⟩ := d
  obtain ⟨nm', ps', nd', bd', gv'⟩ := d'
  unfold nD at h
  simp only [Def.mk.injEq, List.map_id, true_and] at h
  obtain ⟨hp, hn, hb, hg⟩ := h
  have hst : stepTs bd' 0 = stepTs bd 0 := by rw [← stepTs_nm φ bd, hb, stepTs_nm]
  have e22 : hasTs 2 2 bd' = hasTs 2 2 bd := by rw [← hasTs_nm φ 2 2 bd, hb, hasTs_nm]
  have e25 : hasTs 2 5 bd' = hasTs 2 5 bd := by rw [← hasTs_nm φ 2 5 bd, hb, hasTs_nm]
  have e55 : hasTs 5 5 bd' = hasTs 5 5 bd := by rw [← hasTs_nm φ 5 5 bd, hb, hasTs_nm]
  have erd : readsTs bd' = readsTs bd := by rw [← readsTs_nm φ bd, hb, readsTs_nm]
  have ecn : cells nd' = cells nd := by rw [← cells_nm φ nd, hn, cells_nm]
  have ecg : cells gv' = cells gv := by rw [← cells_nm φ gv, hg, cells_nm]
  have h1 := declK_nm hφ ps [] KS0 KS0 ⟨rfl, rfl⟩
  have h1' : (declK (ps.map φ) [] KS0).1 = rnm φ (declK ps [] KS0).1 ∧ KR φ (declK ps [] KS0).2 (declK (ps.map φ) [] KS0).2 := h1
  have hP : (rP ⟨nm', ps', nd', bd', gv'⟩).1 = rnm φ (rP ⟨nm, ps, nd, bd, gv⟩).1 ∧ KR φ (rP ⟨nm, ps, nd, bd, gv⟩).2 (rP ⟨nm', ps', nd', bd', gv'⟩).2 := by
    unfold rP; dsimp only; rw [← hp]; exact h1'
  have hN : (rN ⟨nm, ps, nd, bd, gv⟩).1 = (rN ⟨nm', ps', nd', bd', gv'⟩).1 ∧ (rN ⟨nm, ps, nd, bd, gv⟩).2.1 = (rN ⟨nm', ps', nd', bd', gv'⟩).2.1 := by
    unfold rN; dsimp only; rw [hP.1, hst]; exact needsK_nm hφ 2 _ nd nd' _ _ _ hn hP.2.ft
  have hB : (rB ⟨nm', ps', nd', bd', gv'⟩).1 = rnm φ (rB ⟨nm, ps, nd, bd, gv⟩).1 ∧ KR φ (rB ⟨nm, ps, nd, bd, gv⟩).2 (rB ⟨nm', ps', nd', bd', gv'⟩).2 := by
    unfold rB; dsimp only; rw [hP.1]; exact blockK_nm hφ bd bd' _ _ _ hb ⟨hP.2.dl, hN.2⟩
  have hG : (rG ⟨nm, ps, nd, bd, gv⟩).1 = (rG ⟨nm', ps', nd', bd', gv'⟩).1 ∧ (rG ⟨nm, ps, nd, bd, gv⟩).2.1 = (rG ⟨nm', ps', nd', bd', gv'⟩).2.1 := by
    unfold rG; dsimp only; rw [hB.1, hN.1]; exact needsK_nm hφ 1 _ gv gv' _ _ _ hg hB.2.ft
  have hF : (rF ⟨nm, ps, nd, bd, gv⟩).1 = (rF ⟨nm', ps', nd', bd', gv'⟩).1 := by
    unfold rF; rw [hG.1]
    split
    · exact failF_1 hG.2 _ _ _
    · exact hG.2
  have hl : ps'.length = ps.length := by rw [← hp, List.length_map]
  have hM : rMode ⟨nm', ps', nd', bd', gv'⟩ = rMode ⟨nm, ps, nd, bd, gv⟩ := by unfold rMode; dsimp only; rw [e22, e25, e55, erd, ecn, ecg]
  have hD : (rB ⟨nm', ps', nd', bd', gv'⟩).2.dl.length = (rB ⟨nm, ps, nd, bd, gv⟩).2.dl.length := by rw [hB.2.dl, List.length_map]
  unfold rcheck
  dsimp only
  rw [hl, hM, hD, e22, erd, ← hF, ← hG.1]
  split
  · exact ⟨rfl, rfl⟩
  · split
    · exact ⟨rfl, rfl⟩
    · exact ⟨rfl, rfl⟩
end
end Go.Proofs.Ytphjldhdnmoolaa.A
/- The walks of some functions over the abstract machine. -/
namespace Go.Proofs.Ytphjldhdnmoolaa.A
open Go
/-! texts of any length -/
set_option maxRecDepth 100000 in
set_option maxHeartbeats 4000000 in
theorem tokens_big (m : Mem) (s : Bytes) (hbig : 480 < s.size) : Sim 32 [ss s] m (fun r m' => r = .tup [slK [], ii 2, ii 0] ∧ m' = m) := by
  refine Sim.ofS 124 [.tmp 2, .tmp 3, .tmp 4] Try.func32 rfl rfl rfl (by simp) fun wr => ?_
  simp only [go_sem, Nat.reduceEqDiff, Nat.reduceBEq, Int.reduceToNat, Int.reduceLT, Int.reduceLE, Int.reduceEq, Nat.reduceLeDiff, Nat.reduceLT, Nat.reduceMul, Nat.reduceAdd, String.reduceEq]
  refine TS.seq (TS.of [] fun Q hQ => ?_)
  simp only [go_sem, Nat.reduceEqDiff, Nat.reduceBEq, Int.reduceToNat, Int.reduceLT, Int.reduceLE, Int.reduceEq, Nat.reduceLeDiff, Nat.reduceLT, Nat.reduceMul, Nat.reduceAdd, String.reduceEq]
  refine hQ .normal _ ?_; clear hQ Q
  have hbig' : (480 : Int) < (s.size : Int) := by omega
  refine TS.seq (TS.of [] fun Q hQ => ?_)
  simp only [go_sem, Nat.reduceEqDiff, Nat.reduceBEq, Int.reduceToNat, Int.reduceLT, Int.reduceLE, Int.reduceEq, Nat.reduceLeDiff, Nat.reduceLT, Nat.reduceMul, Nat.reduceAdd, String.reduceEq, hbig']
  refine hQ .ret _ ?_; exact post_ret _ _ _ rfl rfl (DropW.refl _) ⟨rfl, rfl⟩
theorem parse_long {s : Bytes} (h : 480 < s.size) : parse s = (D0, 2, 0) := by unfold parse tokens; rw [if_pos h]; rfl
set_option maxRecDepth 100000 in
set_option maxHeartbeats 4000000 in
theorem parse_any (m : Mem) (s : Bytes) : Sim 22 [ss s] m (fun r m' => r = .tup [.agg (encD (parse s).1), ii (parse s).2.1, ii (parse s).2.2] ∧ m' = m) := by
  by_cases hs : s.size < 900000
  · exact parse_sim m s hs
  rw [parse_long (by omega)]
  refine Sim.ofS 48 [.cell 2 27, .tmp 3, .tmp 4] Try.func22 rfl rfl rfl (by simp) fun wr => ?_
  simp only [go_sem, Nat.reduceEqDiff, Nat.reduceBEq, Int.reduceToNat, Int.reduceLT, Int.reduceLE, Int.reduceEq, Nat.reduceLeDiff, Nat.reduceLT, Nat.reduceMul, Nat.reduceAdd, String.reduceEq]
  refine TS.of [] fun Q hQ => ?_
  simp only [go_sem, Nat.reduceEqDiff, Nat.reduceBEq, Int.reduceToNat, Int.reduceLT, Int.reduceLE, Int.reduceEq, Nat.reduceLeDiff, Nat.reduceLT, Nat.reduceMul, Nat.reduceAdd, String.reduceEq]
  refine cal_eq (tokens_big _ s (by omega)) ?_
  simp only [go_sem, Nat.reduceEqDiff, Nat.reduceBEq, Int.reduceToNat, Int.reduceLT, Int.reduceLE, Int.reduceEq, Nat.reduceLeDiff, Nat.reduceLT, Nat.reduceMul, Nat.reduceAdd, String.reduceEq]
  refine hQ .ret _ ?_; clear hQ Q; refine post_ret _ _ (.tup [.agg (encD D0), ii 2, ii 0]) ?_ ?_ (DropW.tail0 _ rfl) ⟨rfl, rfl⟩
  · simp only [go_sem, Nat.reduceEqDiff, Nat.reduceBEq, Int.reduceToNat, Int.reduceLT, Int.reduceLE, Int.reduceEq, Nat.reduceLeDiff, Nat.reduceLT, Nat.reduceMul, Nat.reduceAdd, String.reduceEq] <;> rfl
  · rfl
set_option maxRecDepth 100000 in
set_option maxHeartbeats 4000000 in
theorem checked_any (m : Mem) (s : Bytes) : Sim 23 [ss s] m (fun r m' => r = .tup [.agg (encI (checkedP s).1), ii (checkedP s).2.1, ii (checkedP s).2.2.1, bb (checkedP s).2.2.2] ∧ m' = m) := by
  by_cases hs : s.size < 900000
  · exact checked_sim m s hs parse_ok
  have hp := parse_any
  have hgo : checkedP s = (Info0, 0, 0, false) := by rw [checkedP, if_neg (by rw [parse_long (by omega)]; decide)]
  rw [hgo]
  refine Sim.ofS 35 [.cell 2 31, .tmp 3, .tmp 4, .tmp 5] Try.func23 rfl rfl rfl (by simp) fun wr => ?_
  simp only [go_sem, Nat.reduceEqDiff, Nat.reduceBEq, Int.reduceToNat, Int.reduceLT, Int.reduceLE, Int.reduceEq, Nat.reduceLeDiff, Nat.reduceLT, Nat.reduceMul, Nat.reduceAdd, String.reduceEq]
  refine TS.of [] fun Q hQ => ?_
  simp only [go_sem, Nat.reduceEqDiff, Nat.reduceBEq, Int.reduceToNat, Int.reduceLT, Int.reduceLE, Int.reduceEq, Nat.reduceLeDiff, Nat.reduceLT, Nat.reduceMul, Nat.reduceAdd, String.reduceEq]
  refine cal_eq (parse_any _ s) ?_
  rw [parse_long (by omega)]
  simp only [go_sem, Nat.reduceEqDiff, Nat.reduceBEq, Int.reduceToNat, Int.reduceLT, Int.reduceLE, Int.reduceEq, Nat.reduceLeDiff, Nat.reduceLT, Nat.reduceMul, Nat.reduceAdd, String.reduceEq]
  refine hQ .ret _ ?_; clear hQ Q; refine post_ret _ _ (.tup [.agg (encI Info0), ii 0, ii 0, bb false]) ?_ ?_ (DropW.tail0 _ rfl) ⟨rfl, rfl⟩
  · simp only [go_sem, Nat.reduceEqDiff, Nat.reduceBEq, Int.reduceToNat, Int.reduceLT, Int.reduceLE, Int.reduceEq, Nat.reduceLeDiff, Nat.reduceLT, Nat.reduceMul, Nat.reduceAdd, String.reduceEq]
  · rfl
/-- What the program finds of a text that is parsed is what the document says. -/
theorem checkedP_ok {s : Bytes} (h : (parse s).2.1 = 0) : checkedP s = ((rcheck (parse s).1).1, (rcheck (parse s).1).2.1, (rcheck (parse s).1).2.2, true) := by
  obtain ⟨h1, h2, _⟩ := check_same (parse_fit h) (parse_ok h)
  unfold checkedP; rw [if_pos h, h1, h2]
theorem checkedP_no {s : Bytes} (h : (parse s).2.1 ≠ 0) : checkedP s = (Info0, 0, 0, false) := by unfold checkedP; rw [if_neg h]
theorem info_ii (a b c : Int) (d : Bool) : info [ii a, ii b, ii c, bb d] = some (a, b, c, d) := rfl
set_option maxRecDepth 100000 in
set_option maxHeartbeats 4000000 in
theorem texts_law (m : Mem) (s : Bytes) : Sim 3 [ss s] m (fun r m' => r = bb true ∧ m' = m) := by
  have hp := fun m => parse_any m s
  have hc := fun m => checked_any m s
  refine Sim.ofS 49 [.tmp 2] Try.func3 rfl rfl rfl (by simp) fun wr => ?_
  simp only [go_sem, Nat.reduceEqDiff, Nat.reduceBEq, Int.reduceToNat, Int.reduceLT, Int.reduceLE, Int.reduceEq, Nat.reduceLeDiff, Nat.reduceLT, Nat.reduceMul, Nat.reduceAdd, String.reduceEq]
  refine TS.seq (TS.of [] fun Q hQ => ?_)
  simp only [go_sem, Nat.reduceEqDiff, Nat.reduceBEq, Int.reduceToNat, Int.reduceLT, Int.reduceLE, Int.reduceEq, Nat.reduceLeDiff, Nat.reduceLT, Nat.reduceMul, Nat.reduceAdd, String.reduceEq]
  refine hQ .normal _ ?_; clear hQ Q
  refine TS.seq (TS.of [] fun Q hQ => ?_)
  simp only [go_sem, Nat.reduceEqDiff, Nat.reduceBEq, Int.reduceToNat, Int.reduceLT, Int.reduceLE, Int.reduceEq, Nat.reduceLeDiff, Nat.reduceLT, Nat.reduceMul, Nat.reduceAdd, String.reduceEq]
  refine cal_eq (alive8_sim _) ?_
  simp only [go_sem, Nat.reduceEqDiff, Nat.reduceBEq, Int.reduceToNat, Int.reduceLT, Int.reduceLE, Int.reduceEq, Nat.reduceLeDiff, Nat.reduceLT, Nat.reduceMul, Nat.reduceAdd, String.reduceEq]
  refine hQ .normal _ ?_; clear hQ Q
  by_cases h : (parse s).2.1 = 0
  · have hr := fun m => rcheck_sim m (parse s).1 (parse_ok h) (fits_arg _ (parse_fit h).body)
    rw [checkedP_ok h] at hc
    rw [h] at hp
    generalize (parse s).2.2 = pl at hp
    generalize parse s = D at hp hr hc
    generalize D.1 = d at hp hr hc
    generalize rcheck d = X at hr hc
    obtain ⟨⟨i1, i2, i3, i4⟩, c, a⟩ := X
    refine TS.seq (TS.of [] fun Q hQ => ?_)
    simp only [go_sem, Nat.reduceEqDiff, Nat.reduceBEq, Int.reduceToNat, Int.reduceLT, Int.reduceLE, Int.reduceEq, Nat.reduceLeDiff, Nat.reduceLT, Nat.reduceMul, Nat.reduceAdd, String.reduceEq]
    refine cal_eq (hp _) ?_
    simp only [go_sem, Nat.reduceEqDiff, Nat.reduceBEq, Int.reduceToNat, Int.reduceLT, Int.reduceLE, Int.reduceEq, Nat.reduceLeDiff, Nat.reduceLT, Nat.reduceMul, Nat.reduceAdd, String.reduceEq, encD]
    refine hQ .normal _ ?_; clear hQ Q
    refine TS.seq (TS.of [] fun Q hQ => ?_)
    simp only [go_sem, Nat.reduceEqDiff, Nat.reduceBEq, Int.reduceToNat, Int.reduceLT, Int.reduceLE, Int.reduceEq, Nat.reduceLeDiff, Nat.reduceLT, Nat.reduceMul, Nat.reduceAdd, String.reduceEq]
    refine hQ .normal _ ?_; clear hQ Q
    refine TS.seq (TS.of [] fun Q hQ => ?_)
    simp only [go_sem, Nat.reduceEqDiff, Nat.reduceBEq, Int.reduceToNat, Int.reduceLT, Int.reduceLE, Int.reduceEq, Nat.reduceLeDiff, Nat.reduceLT, Nat.reduceMul, Nat.reduceAdd, String.reduceEq]
    refine cal_eq (hc _) ?_
    simp only [go_sem, Nat.reduceEqDiff, Nat.reduceBEq, Int.reduceToNat, Int.reduceLT, Int.reduceLE, Int.reduceEq, Nat.reduceLeDiff, Nat.reduceLT, Nat.reduceMul, Nat.reduceAdd, String.reduceEq]
    refine hQ .normal _ ?_; clear hQ Q
    refine TS.seq (TS.of [] fun Q hQ => ?_)
    simp only [go_sem, Nat.reduceEqDiff, Nat.reduceBEq, Int.reduceToNat, Int.reduceLT, Int.reduceLE, Int.reduceEq, Nat.reduceLeDiff, Nat.reduceLT, Nat.reduceMul, Nat.reduceAdd, String.reduceEq, encD]
    refine cal_eq (hr _) ?_
    simp only [go_sem, Nat.reduceEqDiff, Nat.reduceBEq, Int.reduceToNat, Int.reduceLT, Int.reduceLE, Int.reduceEq, Nat.reduceLeDiff, Nat.reduceLT, Nat.reduceMul, Nat.reduceAdd, String.reduceEq]
    refine hQ .normal _ ?_; clear hQ Q
    refine TS.of [] fun Q hQ => ?_
    simp only [go_sem, Nat.reduceEqDiff, Nat.reduceBEq, Int.reduceToNat, Int.reduceLT, Int.reduceLE, Int.reduceEq, Nat.reduceLeDiff, Nat.reduceLT, Nat.reduceMul, Nat.reduceAdd, String.reduceEq, info_ii, eq_self, decide_true]
    refine hQ .ret _ ?_; clear hQ Q; refine post_ret _ _ (bb true) ?_ ?_ (DropW.tail0 _ rfl) ⟨rfl, rfl⟩
    · simp only [go_sem, Nat.reduceEqDiff, Nat.reduceBEq, Int.reduceToNat, Int.reduceLT, Int.reduceLE, Int.reduceEq, Nat.reduceLeDiff, Nat.reduceLT, Nat.reduceMul, Nat.reduceAdd, String.reduceEq]
    · rfl
  · refine TS.seq (TS.of [] fun Q hQ => ?_)
    simp only [go_sem, Nat.reduceEqDiff, Nat.reduceBEq, Int.reduceToNat, Int.reduceLT, Int.reduceLE, Int.reduceEq, Nat.reduceLeDiff, Nat.reduceLT, Nat.reduceMul, Nat.reduceAdd, String.reduceEq]
    refine cal_eq (hp _) ?_
    simp only [go_sem, Nat.reduceEqDiff, Nat.reduceBEq, Int.reduceToNat, Int.reduceLT, Int.reduceLE, Int.reduceEq, Nat.reduceLeDiff, Nat.reduceLT, Nat.reduceMul, Nat.reduceAdd, String.reduceEq, encD]
    refine hQ .normal _ ?_; clear hQ Q
    refine TS.of [] fun Q hQ => ?_
    simp only [go_sem, Nat.reduceEqDiff, Nat.reduceBEq, Int.reduceToNat, Int.reduceLT, Int.reduceLE, Int.reduceEq, Nat.reduceLeDiff, Nat.reduceLT, Nat.reduceMul, Nat.reduceAdd, String.reduceEq, h]
    refine hQ .ret _ ?_; clear hQ Q; refine post_ret _ _ (bb true) ?_ ?_ (DropW.tail0 _ rfl) ⟨rfl, rfl⟩
    · simp only [go_sem, Nat.reduceEqDiff, Nat.reduceBEq, Int.reduceToNat, Int.reduceLT, Int.reduceLE, Int.reduceEq, Nat.reduceLeDiff, Nat.reduceLT, Nat.reduceMul, Nat.reduceAdd, String.reduceEq]
    · rfl
end Go.Proofs.Ytphjldhdnmoolaa.A
/- The walks of some functions over the abstract machine. -/
namespace Go.Proofs.Ytphjldhdnmoolaa.A
open Go
/-! names with others in their place: the texts -/
theorem ph_id : PH id := ⟨fun _ _ => rfl, rfl, fun _ h g => ⟨h, g⟩, fun _ _ _ => Iff.rfl, fun _ _ => Iff.rfl⟩
def phiQ (s : Bytes) : Bytes := if kw s = true ∨ s = ByteArray.empty then s else ofL (81 :: 95 :: L s)
theorem kw_first {s : Bytes} (h : kw s = true) (r : List UInt8) : L s ≠ 81 :: r := by
  unfold kw at h
  simp only [Bool.or_eq_true, decide_eq_true_eq] at h
  rcases h with (((((((((h | h) | h) | h) | h) | h) | h) | h) | h) | h) <;> (rw [h]; intro e; injection e with e _; exact absurd e (by decide))
theorem kw_empty : kw ByteArray.empty = false := by decide
theorem phiQ_id {s : Bytes} (h : kw s = true) : phiQ s = s := by unfold phiQ; rw [if_pos (.inl h)]
theorem phiQ_e : phiQ ByteArray.empty = ByteArray.empty := by unfold phiQ; rw [if_pos (.inr rfl)]
theorem phiQ_of {s : Bytes} (h : kw s = false) (h2 : s ≠ ByteArray.empty) : phiQ s = ofL (81 :: 95 :: L s) := by unfold phiQ; rw [if_neg (fun x => by rcases x with x | x; rw [h] at x; cases x; exact h2 x)]
theorem phiQ_cases (s : Bytes) : (phiQ s = s ∧ (kw s = true ∨ s = ByteArray.empty)) ∨ (phiQ s = ofL (81 :: 95 :: L s) ∧ kw s = false ∧ s ≠ ByteArray.empty) := by
  by_cases h : kw s = true ∨ s = ByteArray.empty
  · left; exact ⟨by unfold phiQ; rw [if_pos h], h⟩
  · right
    have h1 : kw s = false := by cases hk : kw s with | false => rfl | true => exact absurd (.inl hk) h
    exact ⟨by unfold phiQ; rw [if_neg h], h1, fun x => h (.inr x)⟩
theorem L_empty : L ByteArray.empty = [] := rfl
theorem ph_Q : PH phiQ := by
  refine ⟨fun s h => phiQ_id h, phiQ_e, fun s hw hk => ?_, fun s q hq => ?_, fun a b => ?_⟩
  · have hne : s ≠ ByteArray.empty := fun e => by rw [e, L_empty] at hw; cases hw
    rw [phiQ_of hk hne]
    refine ⟨?_, ?_⟩
    · rw [L_ofL, wordL]
      cases hs : L s with
      | nil => rfl
      | cons b r =>
        rw [hs, wordL, Bool.and_eq_true] at hw
        simp only [List.all_cons, Bool.and_eq_true]
        exact ⟨by decide, by decide, (let_facts b hw.1).2.2.1, hw.2⟩
    · cases hq : kw (ofL (81 :: 95 :: L s)) with
      | false => rfl
      | true => exact absurd (L_ofL _) (kw_first hq _)
  · rcases phiQ_cases s with ⟨h, _⟩ | ⟨h, h2, _⟩
    · rw [h]
    · rw [h]
      constructor
      · intro e; exact absurd (by rw [← e, L_ofL]) (kw_first hq (95 :: L s))
      · intro e; rw [e, hq] at h2; cases h2
  · constructor
    · intro e
      rcases phiQ_cases a with ⟨h, h1⟩ | ⟨h, h2, h3⟩ <;> rcases phiQ_cases b with ⟨g, g1⟩ | ⟨g, g2, g3⟩
      · rw [h, g] at e; exact e
      · rw [h, g] at e
        rcases h1 with h1 | h1
        · exact absurd (by rw [e, L_ofL]) (kw_first h1 (95 :: L b))
        · rw [h1] at e
          have := congrArg L e
          rw [L_empty, L_ofL] at this; cases this
      · rw [h, g] at e
        rcases g1 with h1 | h1
        · exact absurd (by rw [← e, L_ofL]) (kw_first h1 (95 :: L a))
        · rw [h1] at e
          have := congrArg L e
          rw [L_empty, L_ofL] at this; cases this
      · rw [h, g] at e
        have := congrArg L e
        rw [L_ofL, L_ofL] at this
        injection this with _ this
        injection this with _ this
        exact L_inj this
    · intro e; rw [e]
abbrev endT (e : Int) : Tok := ⟨4, ByteArray.empty, e⟩
def psi (φ : Bytes → Bytes) (t : Tok) : Bytes := if t.k = 1 then φ t.s else t.s
def jL (φ : Bytes → Bytes) : List Tok → List UInt8
  | [] => []
  | t :: l => L (psi φ t) ++ 32 :: jL φ l
def jB (φ : Bytes → Bytes) (l : List Tok) : Bytes := ofL (jL φ l)
theorem jL_app (φ : Bytes → Bytes) : ∀ a b : List Tok, jL φ (a ++ b) = jL φ a ++ jL φ b
  | [], b => rfl
  | t :: a, b => by rw [List.cons_append, jL, jL, jL_app φ a b]; simp
theorem jL_end (φ : Bytes → Bytes) (e : Int) : ∀ ts : List Tok, jL φ (ts ++ [endT e]) = joinL ((ts.map fun t => (L (psi φ t), t.k)).map (·.1))
  | [] => rfl
  | t :: ts => by rw [List.cons_append, jL, jL_end φ e ts, List.map_cons, List.map_cons, joinL]
theorem toks_tk (φ : Bytes → Bytes) (e : Int) : ∀ (ts : List Tok) (p i : Nat), ((toksL (ts.map fun t => (L (psi φ t), t.k)) p).getD i (endT 0)).k = ((ts ++ [endT e]).getD i (endT 0)).k ∧
    ((toksL (ts.map fun t => (L (psi φ t), t.k)) p).getD i (endT 0)).s = psi φ ((ts ++ [endT e]).getD i (endT 0))
  | [], p, 0 => ⟨rfl, rfl⟩
  | [], p, i + 1 => ⟨rfl, rfl⟩
  | t :: ts, p, 0 => ⟨rfl, rfl⟩
  | t :: ts, p, i + 1 => toks_tk φ e ts _ i
theorem toksL_len : ∀ (ts : List (List UInt8 × Int)) (p : Nat), (toksL ts p).length = ts.length + 1
  | [], p => rfl
  | t :: ts, p => by rw [toksL, List.length_cons, toksL_len ts]; rfl
theorem getD_end {ts : List Tok} {e : Int} {i : Nat} (h : ((ts ++ [endT e]).getD i (endT 0)).k = 1) : ((ts ++ [endT e]).getD i (endT 0)) ∈ ts := by
  rw [List.getD_eq_getElem?_getD] at h ⊢
  by_cases hi : i < ts.length
  · rw [List.getElem?_append_left hi, List.getElem?_eq_getElem hi]; exact List.getElem_mem hi
  · rw [List.getElem?_append_right (by omega)] at h
    cases hj : i - ts.length with
    | zero => rw [hj] at h; exact absurd (show (4 : Int) = 1 from h) (by decide)
    | succ j => rw [hj] at h; exact absurd (show (4 : Int) = 1 from h) (by decide)
theorem tokens_shape {s : Bytes} (h : (tokens s).2.1 = 0) : s.size ≤ 480 ∧ ∃ ts e, (tokens s).1 = ts ++ [endT e] ∧ ∀ t ∈ ts, TG (L t.s) t.k ∧ (t.k = 1 → wordL (L t.s) = true) ∧ (t.k = 1 ∨ t.k = 2 ∨ t.k = 3) := by
  rw [tokens_quick] at h ⊢
  unfold quick at h ⊢
  by_cases hb : 480 < s.size
  · rw [if_pos hb] at h; cases h
  rw [if_neg hb] at h ⊢
  refine ⟨by omega, ?_⟩
  obtain ⟨ts, e, h1, h2⟩ := lexR_toks _ _ 0 (by rw [L_len]; omega) h
  exact ⟨ts, e, h1, h2⟩
theorem parse_parts {s : Bytes} (h0 : (tokens s).2.1 = 0) : (parse s).2.1 = 0 ↔ ¬ fixP (tokens s).1 (defP (tokens s).1).2 < 0 := by
  unfold parse
  dsimp only
  rw [if_neg (fun x => x h0)]
  constructor
  · intro h hn; rw [if_pos hn] at h; exact absurd (show (8 : Int) = 0 from h) (by decide)
  · intro h; rw [if_neg h]
theorem parse_def {s : Bytes} (h : (parse s).2.1 = 0) : (parse s).1 = (defP (tokens s).1).1 := by
  unfold parse at h ⊢
  dsimp only at h ⊢
  split at h
  · rename_i h1; exact absurd h h1
  · rename_i h1
    rw [if_neg h1]
    split at h
    · exact absurd (show (8 : Int) = 0 from h) (by decide)
    · rename_i h2; rw [if_neg h2]
theorem names_law_pure {φ : Bytes → Bytes} (hφ : PH φ) {s : Bytes} (h0 : (tokens s).2.1 = 0) (h1 : (parse s).2.1 = 0) {ts : List Tok} {e : Int} (hl : (tokens s).1 = ts ++ [endT e]) (hw : ∀ t ∈ ts, t.k = 1 → wordL (L t.s) = true) (hg : ∀ t ∈ ts, TG (L (psi φ t)) t.k) (hs : (jB φ (tokens s).1).size ≤ 480) :
    (checkedP (jB φ (tokens s).1)).1 = (checkedP s).1 ∧ (checkedP (jB φ (tokens s).1)).2.1 = (checkedP s).2.1 ∧ (checkedP (jB φ (tokens s).1)).2.2.2 = true := by
  have hjL : L (jB φ (tokens s).1) = joinL ((ts.map fun t => (L (psi φ t), t.k)).map (·.1)) := by rw [jB, L_ofL, hl]; exact jL_end φ e ts
  have htk : tokens (jB φ (tokens s).1) = (toksL (ts.map fun t => (L (psi φ t), t.k)) 0, 0, 0) := by
    rw [tokens_quick]
    unfold quick
    rw [if_neg (by omega), hjL]
    refine lex_join _ _ _ (fun t ht => ?_) ?_
    · obtain ⟨x, hx, rfl⟩ := List.mem_map.1 ht; exact hg x hx
    · rw [← hjL, L_len]; omega
  have hLR : LR φ (tokens s).1 (tokens (jB φ (tokens s).1)).1 := by
    rw [htk]
    dsimp only
    refine ⟨by rw [toksL_len, hl]; simp, fun p => ?_, fun p => ?_, fun p hp => ?_⟩
    · rw [hl]; exact (toks_tk φ e ts 0 p.toNat).1
    · rw [hl]; exact (toks_tk φ e ts 0 p.toNat).2
    · rw [hl] at hp ⊢; exact hw _ (getD_end hp) hp
  have hd := defP_nm hφ hLR
  have c0 : (tokens (jB φ (tokens s).1)).2.1 = 0 := by rw [htk]
  have hp' : (parse (jB φ (tokens s).1)).2.1 = 0 := by
    rw [parse_parts c0, fix_nm hφ hLR, ← hd.2]
    exact (parse_parts h0).1 h1
  have hD : nD φ (parse s).1 = nD id (parse (jB φ (tokens s).1)).1 := by rw [parse_def h1, parse_def hp']; exact hd.1
  have hr := rcheck_nm hφ hD
  rw [checkedP_ok h1, checkedP_ok hp']
  exact ⟨hr.1.symm, hr.2.symm, rfl⟩
theorem tg_psi_id {t : Tok} (h : TG (L t.s) t.k) : TG (L (psi id t)) t.k := by
  have : psi id t = t.s := by unfold psi; split <;> rfl
  rw [this]; exact h
theorem tg_psi_Q {t : Tok} (h : TG (L t.s) t.k) (hw : t.k = 1 → wordL (L t.s) = true) (hs : t.k = 1 → kw t.s = false → t.s.size ≤ 13) : TG (L (psi phiQ t)) t.k := by
  unfold psi
  by_cases k1 : t.k = 1
  · rw [if_pos k1]
    rcases phiQ_cases t.s with ⟨g, _⟩ | ⟨g, g2, _⟩
    · rw [g]; exact h
    · have hw2 := (ph_Q.w t.s (hw k1) g2).1
      rw [k1]
      refine tg_word hw2 ?_
      rw [g, L_ofL, List.length_cons, List.length_cons, L_len]
      have := hs k1 g2
      omega
  · rw [if_neg k1]; exact h
theorem psi_Q_len (t : Tok) : (L (psi phiQ t)).length ≤ (L t.s).length + 2 := by
  unfold psi
  split
  · rcases phiQ_cases t.s with ⟨g, _⟩ | ⟨g, _⟩
    · rw [g]; omega
    · rw [g, L_ofL]; simp
  · omega
theorem jL_bound : ∀ (f : Nat) (r : List UInt8) (p : Nat), r.length < f → (jL phiQ (lexR f r p).1).length ≤ 4 * r.length + 1 ∧ (jL id (lexR f r p).1).length ≤ 4 * r.length + 1
  | 0, r, p, h => by omega
  | f + 1, [], p, h => by
    rw [lexR]
    refine ⟨?_, ?_⟩ <;> (simp only [jL, psi]; rw [if_neg (by decide)]; decide)
  | f + 1, b :: r, p, h => by
    simp only [List.length_cons] at h ⊢
    rw [lexR]
    by_cases hs : b.toNat = 32 ∨ b.toNat = 9 ∨ b.toNat = 10
    · rw [if_pos hs]
      have := jL_bound f r (p + 1) (by omega)
      omega
    rw [if_neg hs]
    by_cases h35 : b.toNat = 35
    · rw [if_pos h35]
      have hn : 0 < nlen (b :: r) := by rw [nlen, List.takeWhile_cons, if_pos (by simp [h35])]; simp
      have := jL_bound f ((b :: r).drop (nlen (b :: r))) (p + nlen (b :: r)) (by rw [List.length_drop, List.length_cons]; omega)
      rw [List.length_drop, List.length_cons] at this
      omega
    rw [if_neg h35]
    by_cases hk : kindL (b :: r) = 0
    · rw [if_pos hk]; simp [jL]
    rw [if_neg hk]
    obtain ⟨_, _, _, h4⟩ := tg_of hk
    have hle := tlen_le (b :: r)
    rw [List.length_cons] at hle
    have ih := jL_bound f ((b :: r).drop (tlen (b :: r))) (p + tlen (b :: r)) (by rw [List.length_drop, List.length_cons]; omega)
    rw [List.length_drop, List.length_cons] at ih
    unfold consT
    split
    · have hq := psi_Q_len ⟨kindL (b :: r), ofL ((b :: r).take (tlen (b :: r))), p⟩
      have hid : psi id ⟨kindL (b :: r), ofL ((b :: r).take (tlen (b :: r))), p⟩ = ofL ((b :: r).take (tlen (b :: r))) := by unfold psi; split <;> rfl
      dsimp only at hq ⊢
      rw [jL, jL, hid, List.length_append, List.length_append, List.length_cons, List.length_cons]
      rw [L_ofL, List.length_take, List.length_cons] at hq ⊢
      omega
    · have e1 := ih.1
      have e2 := ih.2
      constructor <;> omega
theorem tokens_bound {s : Bytes} (h : (tokens s).2.1 = 0) : (jL phiQ (tokens s).1).length ≤ 2000 ∧ (jL id (tokens s).1).length ≤ 2000 := by
  have hs := (tokens_shape h).1
  rw [tokens_quick]
  unfold quick
  rw [if_neg (by omega)]
  have := jL_bound (s.size + 1) (L s) 0 (by rw [L_len]; omega)
  rw [L_len] at this
  omega
end Go.Proofs.Ytphjldhdnmoolaa.A
/- The walks of some functions over the abstract machine. -/
namespace Go.Proofs.Ytphjldhdnmoolaa.A
open Go
/-! CheckNames -/
def spB : Bytes := ⟨#[32]⟩
def quB : Bytes := ⟨#[81, 95]⟩
theorem L_cat (a b : Bytes) : L (a ++ b) = L a ++ L b := by unfold L; simp
theorem jB_snoc (φ : Bytes → Bytes) {l : List Tok} {k : Nat} {t : Tok} (h : l[k]? = some t) : jB φ (l.take (k + 1)) = jB φ (l.take k) ++ (psi φ t ++ spB) := by
  refine L_inj ?_
  rw [L_cat, L_cat, jB, jB, L_ofL, L_ofL, List.take_add_one, h, Option.toList_some, jL_app, jL, jL]; rfl
theorem jB_le (φ : Bytes → Bytes) (l : List Tok) (k : Nat) : (jB φ (l.take k)).size ≤ (jL φ l).length := by
  rw [← L_len, jB, L_ofL]
  conv => rhs; rw [← List.take_append_drop k l, jL_app]
  rw [List.length_append]; omega
theorem jL_le : ∀ l : List Tok, (jL id l).length ≤ (jL phiQ l).length
  | [] => Nat.le_refl _
  | t :: l => by
    have ih := jL_le l
    have : (L (psi id t)).length ≤ (L (psi phiQ t)).length := by
      unfold psi
      split
      · rcases phiQ_cases t.s with ⟨g, _⟩ | ⟨g, _⟩
        · rw [g]; exact Nat.le_refl _
        · rw [g, L_ofL]; simp; omega
      · exact Nat.le_refl _
    rw [jL, jL, List.length_append, List.length_append, List.length_cons, List.length_cons]; omega
theorem size_cat (a b : Bytes) : (a ++ b).size = a.size + b.size := by rw [← L_len, ← L_len, ← L_len, L_cat, List.length_append]
theorem jB_all (φ : Bytes → Bytes) (l : List Tok) : jB φ (l.take l.length) = jB φ l := by rw [List.take_length]
theorem jB_len : ∀ l : List Tok, l.length ≤ (jL phiQ l).length
  | [] => Nat.le_refl _
  | t :: l => by have := jB_len l; rw [jL, List.length_append, List.length_cons, List.length_cons]; omega
set_option maxRecDepth 100000 in
set_option maxHeartbeats 4000000 in
theorem names_law (m : Mem) (s : Bytes) : Sim 5 [ss s] m (fun r m' => r = bb true ∧ m' = m) := by
  have ht : ∀ m, Sim 32 [ss s] m (fun r m' => r = .tup [slK (tokens s).1, ii (tokens s).2.1, ii (tokens s).2.2] ∧ m' = m) := fun m => by
    by_cases hs : s.size < 900000
    · exact tokens_sim m s hs
    · have := tokens_big m s (by omega)
      have e : tokens s = ([], 2, 0) := by unfold tokens; rw [if_pos (by omega)]
      rw [e]; exact this
  have hc := fun m => checked_any m s
  refine Sim.ofS 119 [.tmp 2] Try.func5 rfl rfl rfl (by simp) fun wr => ?_
  simp only [go_sem, Nat.reduceEqDiff, Nat.reduceBEq, Int.reduceToNat, Int.reduceLT, Int.reduceLE, Int.reduceEq, Nat.reduceLeDiff, Nat.reduceLT, Nat.reduceMul, Nat.reduceAdd, String.reduceEq]
  refine TS.seq (TS.of [] fun Q hQ => ?_)
  simp only [go_sem, Nat.reduceEqDiff, Nat.reduceBEq, Int.reduceToNat, Int.reduceLT, Int.reduceLE, Int.reduceEq, Nat.reduceLeDiff, Nat.reduceLT, Nat.reduceMul, Nat.reduceAdd, String.reduceEq]
  refine hQ .normal _ ?_; clear hQ Q
  refine TS.seq (TS.of [] fun Q hQ => ?_)
  simp only [go_sem, Nat.reduceEqDiff, Nat.reduceBEq, Int.reduceToNat, Int.reduceLT, Int.reduceLE, Int.reduceEq, Nat.reduceLeDiff, Nat.reduceLT, Nat.reduceMul, Nat.reduceAdd, String.reduceEq]
  refine cal_eq (alive8_sim _) ?_
  simp only [go_sem, Nat.reduceEqDiff, Nat.reduceBEq, Int.reduceToNat, Int.reduceLT, Int.reduceLE, Int.reduceEq, Nat.reduceLeDiff, Nat.reduceLT, Nat.reduceMul, Nat.reduceAdd, String.reduceEq]
  refine hQ .normal _ ?_; clear hQ Q
  refine TS.seq (TS.of [] fun Q hQ => ?_)
  simp only [go_sem, Nat.reduceEqDiff, Nat.reduceBEq, Int.reduceToNat, Int.reduceLT, Int.reduceLE, Int.reduceEq, Nat.reduceLeDiff, Nat.reduceLT, Nat.reduceMul, Nat.reduceAdd, String.reduceEq]
  refine cal_eq (ht _) ?_
  simp only [go_sem, Nat.reduceEqDiff, Nat.reduceBEq, Int.reduceToNat, Int.reduceLT, Int.reduceLE, Int.reduceEq, Nat.reduceLeDiff, Nat.reduceLT, Nat.reduceMul, Nat.reduceAdd, String.reduceEq]
  refine hQ .normal _ ?_; clear hQ Q
  refine TS.seq (TS.of [] fun Q hQ => ?_)
  simp only [go_sem, Nat.reduceEqDiff, Nat.reduceBEq, Int.reduceToNat, Int.reduceLT, Int.reduceLE, Int.reduceEq, Nat.reduceLeDiff, Nat.reduceLT, Nat.reduceMul, Nat.reduceAdd, String.reduceEq]
  refine cal_eq (hc _) ?_
  simp only [go_sem, Nat.reduceEqDiff, Nat.reduceBEq, Int.reduceToNat, Int.reduceLT, Int.reduceLE, Int.reduceEq, Nat.reduceLeDiff, Nat.reduceLT, Nat.reduceMul, Nat.reduceAdd, String.reduceEq]
  refine hQ .normal _ ?_; clear hQ Q
  by_cases b0 : (tokens s).2.1 = 0
  rotate_left
  · refine TS.of [] fun Q hQ => ?_
    simp only [go_sem, Nat.reduceEqDiff, Nat.reduceBEq, Int.reduceToNat, Int.reduceLT, Int.reduceLE, Int.reduceEq, Nat.reduceLeDiff, Nat.reduceLT, Nat.reduceMul, Nat.reduceAdd, String.reduceEq, eq_false b0]
    refine hQ .ret _ ?_; clear hQ Q; refine post_ret _ _ (bb true) ?_ ?_ (DropW.tail0 _ rfl) ⟨rfl, rfl⟩
    · simp only [go_sem, Nat.reduceEqDiff, Nat.reduceBEq, Int.reduceToNat, Int.reduceLT, Int.reduceLE, Int.reduceEq, Nat.reduceLeDiff, Nat.reduceLT, Nat.reduceMul, Nat.reduceAdd, String.reduceEq]
    · rfl
  by_cases b1 : (parse s).2.1 = 0
  rotate_left
  · have hno := checkedP_no b1
    refine TS.of [] fun Q hQ => ?_
    simp only [go_sem, Nat.reduceEqDiff, Nat.reduceBEq, Int.reduceToNat, Int.reduceLT, Int.reduceLE, Int.reduceEq, Nat.reduceLeDiff, Nat.reduceLT, Nat.reduceMul, Nat.reduceAdd, String.reduceEq, eq_true b0, hno]
    refine hQ .ret _ ?_; clear hQ Q; refine post_ret _ _ (bb true) ?_ ?_ (DropW.tail0 _ rfl) ⟨rfl, rfl⟩
    · simp only [go_sem, Nat.reduceEqDiff, Nat.reduceBEq, Int.reduceToNat, Int.reduceLT, Int.reduceLE, Int.reduceEq, Nat.reduceLeDiff, Nat.reduceLT, Nat.reduceMul, Nat.reduceAdd, String.reduceEq]
    · rfl
  obtain ⟨_, ts, e, hl, hts⟩ := tokens_shape b0
  have hok : (checkedP s).2.2.2 = true := by rw [checkedP_ok b1]
  have hbd := tokens_bound b0
  have pureQ := names_law_pure ph_Q b0 b1 hl (fun t h => (hts t h).2.1)
  have pureI := names_law_pure ph_id b0 b1 hl (fun t h => (hts t h).2.1) (fun t h => tg_psi_id (hts t h).1)
  generalize (tokens s).1 = l at *
  generalize checkedP s = X at *
  obtain ⟨⟨i1, i2, i3, i4⟩, c, a, ok⟩ := X
  dsimp only at hok pureQ pureI
  subst hok
  refine TS.seq (TS.of [] fun Q hQ => ?_)
  simp only [go_sem, Nat.reduceEqDiff, Nat.reduceBEq, Int.reduceToNat, Int.reduceLT, Int.reduceLE, Int.reduceEq, Nat.reduceLeDiff, Nat.reduceLT, Nat.reduceMul, Nat.reduceAdd, String.reduceEq, eq_true b0]
  refine hQ .normal _ ?_; clear hQ Q
  refine TS.seq (TS.of [] fun Q hQ => ?_)
  simp only [go_sem, Nat.reduceEqDiff, Nat.reduceBEq, Int.reduceToNat, Int.reduceLT, Int.reduceLE, Int.reduceEq, Nat.reduceLeDiff, Nat.reduceLT, Nat.reduceMul, Nat.reduceAdd, String.reduceEq]
  refine hQ .normal _ ?_; clear hQ Q
  refine TS.seq (TS.seq (TS.of [] fun Q hQ => ?_))
  simp only [go_sem, Nat.reduceEqDiff, Nat.reduceBEq, Int.reduceToNat, Int.reduceLT, Int.reduceLE, Int.reduceEq, Nat.reduceLeDiff, Nat.reduceLT, Nat.reduceMul, Nat.reduceAdd, String.reduceEq]
  refine hQ .normal _ ?_; clear hQ Q
  refine TS.block (TS.loop (α := Nat) (fun k => [(6, .ptr m.objs.length 0), (7, ii c), (10, ss (jB id (l.take k))), (11, ss (jB phiQ (l.take k))), (42, slK l), (43, ii l.length), (44, ii k)]) (fun _ => ⟨m.objs ++ [.cells [ii i1, ii i2, ii i3, bb i4]], m.rows⟩) (fun k => k ≤ l.length ∧ ∀ i t, i < k → l[i]? = some t → t.k = 1 → kw t.s = false → t.s.size ≤ 13) (fun k => l.length - k) 0 (by simp) ⟨by simp [Has, upd_apply]; exact ⟨rfl, rfl⟩, rfl, by simp⟩ ?_)
  rintro k st hH hm ⟨hk, hI⟩
  simp only [Has, List.mem_cons, List.not_mem_nil, or_false, forall_eq_or_imp, forall_eq] at hH; obtain ⟨i6, i7, i10, i11, i42, i43, i44⟩ := hH
  by_cases hlt : k < l.length
  · obtain ⟨x, hx⟩ : ∃ x, l[k]? = some x := ⟨_, List.getElem?_eq_getElem hlt⟩
    have hat := encK_at hx
    have hlt3 : k * 3 < (encK l).length := by rw [encK_length]; omega
    have hll : l.length < 1000000 := by
      have := jB_len l
      omega
    have hw := wrap_succ hlt hll
    have s1 := jB_snoc id hx
    have s2 := jB_snoc phiQ hx
    have pid : psi id x = x.s := by unfold psi; split <;> rfl
    rw [pid] at s1
    have z1 := jB_le id l (k + 1)
    have z2 := jB_le phiQ l (k + 1)
    rw [s1, size_cat, size_cat] at z1
    rw [s2, size_cat, size_cat] at z2
    have zs : ByteArray.size spB = 1 := rfl
    have f1 : x.s.size ≤ 9223372036854775806 := by omega
    have f2 : (jB id (l.take k)).size + (x.s.size + 1) ≤ 9223372036854775807 := by omega
    have e1 : jB id (l.take k) ++ (x.s ++ (⟨#[32]⟩ : Bytes)) = jB id (l.take (k + 1)) := s1.symm
    have plain : psi phiQ x = x.s → (jB phiQ (l.take k)).size + (x.s.size + 1) ≤ 9223372036854775807 ∧ jB phiQ (l.take k) ++ (x.s ++ (⟨#[32]⟩ : Bytes)) = jB phiQ (l.take (k + 1)) := fun h => by
      rw [h] at s2 z2
      exact ⟨by omega, s2.symm⟩
    have hIn : ∀ (P : x.k = 1 → kw x.s = false → x.s.size ≤ 13), ∀ i t, i < k + 1 → l[i]? = some t → t.k = 1 → kw t.s = false → t.s.size ≤ 13 := fun P i t hi ht h1 h2 => by
      by_cases e : i = k
      · subst e; rw [hx] at ht; cases ht; exact P h1 h2
      · exact hI i t (by omega) ht h1 h2
    by_cases k1 : x.k = 1
    · have hkw := fun m => kw_sim m x.s
      cases hk2 : kw x.s with
      | true =>
        rw [hk2] at hkw
        obtain ⟨f3, e2⟩ := plain (by unfold psi; rw [if_pos k1, phiQ_id hk2])
        refine TS.of [] fun Q hQ => ?_
        simp only [go_sem, Nat.reduceEqDiff, Nat.reduceBEq, Int.reduceToNat, Int.reduceLT, Int.reduceLE, Int.reduceEq, Nat.reduceLeDiff, Nat.reduceLT, Nat.reduceMul, Nat.reduceAdd, String.reduceEq, i6, i7, i10, i11, i42, i43, i44, hm, hlt, hat, hlt3, eq_true k1, f1, f2, e1]
        refine cal_eq (hkw _) ?_
        simp only [go_sem, Nat.reduceEqDiff, Nat.reduceBEq, Int.reduceToNat, Int.reduceLT, Int.reduceLE, Int.reduceEq, Nat.reduceLeDiff, Nat.reduceLT, Nat.reduceMul, Nat.reduceAdd, String.reduceEq, i6, i7, i10, i11, i42, i43, i44, f1, f3, e2, hw]
        refine hQ .normal _ ?_; clear hQ Q
        refine ⟨_, _, k + 1, DropW.tail0 (m := ⟨m.objs ++ [.cells [ii i1, ii i2, ii i3, bb i4]], m.rows⟩) [.cells [ii x.k, ss x.s, ii x.p]] (by simp), ?_, ⟨by omega, hIn fun _ h => by rw [hk2] at h; cases h⟩, by omega⟩
        simp [upd_apply, i6, i7, i42, i43, IV.np, SK.np, npK]
      | false =>
        rw [hk2] at hkw
        by_cases h13 : x.s.size ≤ 13
        · have hne : x.s ≠ ByteArray.empty := fun e => by
            have hmem : x ∈ ts := by
              have h3 := List.mem_of_getElem? hx
              rw [hl] at h3
              rcases List.mem_append.1 h3 with h4 | h4
              · exact h4
              · rw [List.mem_singleton.1 h4] at k1; exact absurd (show (4 : Int) = 1 from k1) (by decide)
            have := (hts x hmem).2.1 k1
            rw [e, L_empty] at this; cases this
          have hpq : psi phiQ x = (⟨#[81, 95]⟩ : Bytes) ++ x.s := by
            unfold psi; rw [if_pos k1, phiQ_of hk2 hne]
            refine L_inj ?_
            rw [L_cat, L_ofL]; rfl
          rw [hpq] at s2 z2
          have g13 : ¬ (13 : Int) < (x.s.size : Int) := by omega
          have z3 : ByteArray.size ((⟨#[81, 95]⟩ : Bytes) ++ x.s) = 2 + x.s.size := size_cat quB x.s
          have f3 : 2 + x.s.size ≤ 9223372036854775807 := by omega
          have f4 : 2 + x.s.size ≤ 9223372036854775806 := by omega
          have f5 : (jB phiQ (l.take k)).size + (2 + x.s.size + 1) ≤ 9223372036854775807 := by omega
          have e2 : jB phiQ (l.take k) ++ (((⟨#[81, 95]⟩ : Bytes) ++ x.s) ++ (⟨#[32]⟩ : Bytes)) = jB phiQ (l.take (k + 1)) := s2.symm
          refine TS.of [] fun Q hQ => ?_
          simp only [go_sem, Nat.reduceEqDiff, Nat.reduceBEq, Int.reduceToNat, Int.reduceLT, Int.reduceLE, Int.reduceEq, Nat.reduceLeDiff, Nat.reduceLT, Nat.reduceMul, Nat.reduceAdd, String.reduceEq, i6, i7, i10, i11, i42, i43, i44, hm, hlt, hat, hlt3, eq_true k1, f1, f2, e1]
          refine cal_eq (hkw _) ?_
          simp only [go_sem, Nat.reduceEqDiff, Nat.reduceBEq, Int.reduceToNat, Int.reduceLT, Int.reduceLE, Int.reduceEq, Nat.reduceLeDiff, Nat.reduceLT, Nat.reduceMul, Nat.reduceAdd, String.reduceEq, i6, i7, i10, i11, i42, i43, i44, g13, f3, f4, f5, e2, hw]
          refine hQ .normal _ ?_; clear hQ Q
          refine ⟨_, _, k + 1, DropW.tail0 (m := ⟨m.objs ++ [.cells [ii i1, ii i2, ii i3, bb i4]], m.rows⟩) [.cells [ii x.k, ss x.s, ii x.p]] (by simp), ?_, ⟨by omega, hIn fun _ _ => h13⟩, by omega⟩
          simp [upd_apply, i6, i7, i42, i43, IV.np, SK.np, npK]
        · have g13 : (13 : Int) < (x.s.size : Int) := by omega
          refine TS.of [] fun Q hQ => ?_
          simp only [go_sem, Nat.reduceEqDiff, Nat.reduceBEq, Int.reduceToNat, Int.reduceLT, Int.reduceLE, Int.reduceEq, Nat.reduceLeDiff, Nat.reduceLT, Nat.reduceMul, Nat.reduceAdd, String.reduceEq, i6, i7, i10, i11, i42, i43, i44, hm, hlt, hat, hlt3, eq_true k1, f1, f2, e1]
          refine cal_eq (hkw _) ?_
          simp only [go_sem, Nat.reduceEqDiff, Nat.reduceBEq, Int.reduceToNat, Int.reduceLT, Int.reduceLE, Int.reduceEq, Nat.reduceLeDiff, Nat.reduceLT, Nat.reduceMul, Nat.reduceAdd, String.reduceEq, i6, i7, i10, i11, i42, i43, i44, g13]
          refine hQ .ret _ ?_; clear hQ Q; refine post_ret _ _ (bb true) ?_ ?_ (DropW.tail0 _ rfl) ⟨rfl, rfl⟩
          · simp only [go_sem, Nat.reduceEqDiff, Nat.reduceBEq, Int.reduceToNat, Int.reduceLT, Int.reduceLE, Int.reduceEq, Nat.reduceLeDiff, Nat.reduceLT, Nat.reduceMul, Nat.reduceAdd, String.reduceEq]
          · rfl
    · obtain ⟨f3, e2⟩ := plain (by unfold psi; rw [if_neg k1])
      refine TS.of [] fun Q hQ => ?_
      simp only [go_sem, Nat.reduceEqDiff, Nat.reduceBEq, Int.reduceToNat, Int.reduceLT, Int.reduceLE, Int.reduceEq, Nat.reduceLeDiff, Nat.reduceLT, Nat.reduceMul, Nat.reduceAdd, String.reduceEq, i6, i7, i10, i11, i42, i43, i44, hm, hlt, hat, hlt3, eq_false k1, f1, f2, e1]
      simp only [go_sem, Nat.reduceEqDiff, Nat.reduceBEq, Int.reduceToNat, Int.reduceLT, Int.reduceLE, Int.reduceEq, Nat.reduceLeDiff, Nat.reduceLT, Nat.reduceMul, Nat.reduceAdd, String.reduceEq, i6, i7, i10, i11, i42, i43, i44, f1, f3, e2, hw]
      refine hQ .normal _ ?_; clear hQ Q
      refine ⟨_, _, k + 1, DropW.tail0 (m := ⟨m.objs ++ [.cells [ii i1, ii i2, ii i3, bb i4]], m.rows⟩) [.cells [ii x.k, ss x.s, ii x.p]] (by simp), ?_, ⟨by omega, hIn fun h => absurd h k1⟩, by omega⟩
      simp [upd_apply, i6, i7, i42, i43, IV.np, SK.np, npK]
  · have hkl : k = l.length := by omega
    subst hkl
    rw [jB_all] at i10 i11
    refine TS.of [] fun Q hQ => ?_
    simp only [go_sem, Nat.reduceEqDiff, Nat.reduceBEq, Int.reduceToNat, Int.reduceLT, Int.reduceLE, Int.reduceEq, Nat.reduceLeDiff, Nat.reduceLT, Nat.reduceMul, Nat.reduceAdd, String.reduceEq, i6, i7, i10, i11, i42, i43, i44, hm, hlt]
    refine hQ (.exit 0) _ ?_; clear hQ Q
    by_cases hbig : 480 < (jB phiQ l).size
    · have g : (480 : Int) < ((jB phiQ l).size : Int) := by omega
      refine TS.of [] fun Q hQ => ?_
      simp only [go_sem, Nat.reduceEqDiff, Nat.reduceBEq, Int.reduceToNat, Int.reduceLT, Int.reduceLE, Int.reduceEq, Nat.reduceLeDiff, Nat.reduceLT, Nat.reduceMul, Nat.reduceAdd, String.reduceEq, i6, i7, i10, i11, g]
      refine hQ .ret _ ?_; clear hQ Q; refine post_ret _ _ (bb true) ?_ ?_ (DropW.tail0 _ rfl) ⟨rfl, rfl⟩
      · simp only [go_sem, Nat.reduceEqDiff, Nat.reduceBEq, Int.reduceToNat, Int.reduceLT, Int.reduceLE, Int.reduceEq, Nat.reduceLeDiff, Nat.reduceLT, Nat.reduceMul, Nat.reduceAdd, String.reduceEq]
      · rfl
    · have g : ¬ (480 : Int) < ((jB phiQ l).size : Int) := by omega
      have hle := jL_le l
      have hq1 : (jB phiQ l).size = (jL phiQ l).length := by rw [← L_len, jB, L_ofL]
      have hq2 : (jB id l).size = (jL id l).length := by rw [← L_len, jB, L_ofL]
      obtain ⟨p1, p2, p3⟩ := pureQ (fun t h => by
        refine tg_psi_Q (hts t h).1 (hts t h).2.1 fun h1 h2 => ?_
        obtain ⟨j, hj⟩ := List.mem_iff_getElem?.1 (show t ∈ l by rw [hl]; exact List.mem_append_left _ h)
        exact hI j t (List.getElem?_eq_some_iff.1 hj).1 hj h1 h2) (by omega)
      obtain ⟨r1, r2, r3⟩ := pureI (by omega)
      have hcQ := fun m => checked_any m (jB phiQ l)
      have hcI := fun m => checked_any m (jB id l)
      generalize jB phiQ l = sQ at *
      generalize jB id l = sI at *
      generalize checkedP sQ = Y at *
      generalize checkedP sI = Z at *
      obtain ⟨⟨y1, y2, y3, y4⟩, cy, ay, oy⟩ := Y
      obtain ⟨⟨w1, w2, w3, w4⟩, cz, az, oz⟩ := Z
      dsimp only at p1 p2 p3 r1 r2 r3
      injection p1 with q1 q2 q3 q4
      injection r1 with v1 v2 v3 v4
      subst q1 q2 q3 q4 v1 v2 v3 v4 p2 p3 r2 r3
      refine TS.of [] fun Q hQ => ?_
      simp only [go_sem, Nat.reduceEqDiff, Nat.reduceBEq, Int.reduceToNat, Int.reduceLT, Int.reduceLE, Int.reduceEq, Nat.reduceLeDiff, Nat.reduceLT, Nat.reduceMul, Nat.reduceAdd, String.reduceEq, i6, i7, i10, i11, g]
      refine cal_eq (hcQ _) ?_
      simp only [go_sem, Nat.reduceEqDiff, Nat.reduceBEq, Int.reduceToNat, Int.reduceLT, Int.reduceLE, Int.reduceEq, Nat.reduceLeDiff, Nat.reduceLT, Nat.reduceMul, Nat.reduceAdd, String.reduceEq, i6, i7, i10, i11]
      refine cal_eq (hcI _) ?_
      simp only [go_sem, Nat.reduceEqDiff, Nat.reduceBEq, Int.reduceToNat, Int.reduceLT, Int.reduceLE, Int.reduceEq, Nat.reduceLeDiff, Nat.reduceLT, Nat.reduceMul, Nat.reduceAdd, String.reduceEq, i6, i7, i10, i11, info_ii, eq_self, decide_true]
      refine hQ .ret _ ?_; clear hQ Q; refine post_ret _ _ (bb true) ?_ ?_ (DropW.tail0 _ rfl) ⟨rfl, rfl⟩
      · simp only [go_sem, Nat.reduceEqDiff, Nat.reduceBEq, Int.reduceToNat, Int.reduceLT, Int.reduceLE, Int.reduceEq, Nat.reduceLeDiff, Nat.reduceLT, Nat.reduceMul, Nat.reduceAdd, String.reduceEq]
      · rfl
end Go.Proofs.Ytphjldhdnmoolaa.A
/- Words for the rows: what came in, seen by the abstract machine. -/
namespace Go.Proofs.Ytphjldhdnmoolaa.A
open Go Go.ChangeShapes Go.WideShapes Go.ChangeAt Go.RowKit Go.Joins
theorem own : ownKnob Try.prog.godebug = none := by kernel_rfl
theorem laidOut : laidOutB Try.prog = true := by kernel_rfl
def K0 (w : World) : K := ⟨[], [], fun b j => ∃ v, w.cell? ⟨b, j, none⟩ = some v⟩
def M0 : Mem := ⟨[], []⟩
theorem inv0 (w : World) : Inv (wr0 (K0 w) w) (K0 w) w M0 :=
  ⟨rfl, fun i j b h => by simp [K0] at h, fun o b x h => by simp [K0] at h, rfl, fun k r h => by simp [K0] at h, fun i j r r' h => by simp [K0] at h,
    fun b j h => ⟨by simp [K0], h⟩, fun b h => by simp [K0] at h, fun k r h => by simp [K0] at h, fun b h => .inr (.inr h)⟩
theorem calls_of_sim {f : FuncId} {args : List IV} {w : World} {vs : Array Value} (h : Sim f args M0 (fun r m' => r = .v (.bool true) ∧ m' = M0)) (hl : RelL (K0 w) w args vs.toList) :
    Calls Try.prog f vs w fun e w' => e = .returned (.bool true) ∧ Below w.heap.size w w' := by
  refine (h (K0 w) w vs (inv0 w) hl).mono ?_
  rintro e w' ⟨κ', v, r, m', rfl, hev, hi, hr, rfl, rfl⟩
  refine ⟨?_, hev.os, hev.tape, hev.output, hev.size, fun k hk => (hev.keep k hk ?_).1⟩
  · simp only [Rel] at hr; rw [hr]
  · rintro (h | ⟨k, r, h, _⟩ | h)
    · simp [K0] at h
    · simp [K0] at h
    · omega
theorem places_lt {H : Type} {enc : TypeId × Value → H} {P : Program} {W : World} {base : Nat} {spare : Nat → Bool} {held : Bool} {t : TypeId} {v : Value} {d : DataW H} {p : List MemPlace} (h : DataW.Trod enc P W base spare held t v d p) : ∀ x ∈ p, x.block < W.heap.size := by
  obtain ⟨m, hm⟩ := h
  exact DataW.trod_lt m _ _ _ hm
theorem relC_cells {w : World} {b : Nat} : ∀ {l : List Value} {off : Nat}, (∀ i, i < l.length → w.cell? ⟨b, off + i, none⟩ = l[i]?) → RelC (K0 w) w b off (l.map .v)
  | [], _, _ => by simp [RelC]
  | x :: l, off, h => by
    have h0 := h 0 (by simp)
    simp only [List.map_cons, RelC]
    refine ⟨⟨x, by simpa using h0⟩, ⟨x, by simpa using h0, rfl⟩, relC_cells fun i hi => ?_⟩
    have h1 := h (i + 1) (by simpa using hi)
    simpa [Nat.add_assoc, Nat.add_comm 1 i] using h1
/-- A text that came in. -/
theorem open_string {H : Type} {enc : TypeId × Value → H} {P : Program} {w : World} {base : Nat} {spare : Nat → Bool} {held : Bool} {r : Reach} {b0 : Nat} {t : TypeId} {v : Value} {d : DataW H} {ps : List MemPlace} (ht : P.underlying t = some .string) (hval : Value.okWide P w r b0 t v) (hd : DataW.Trod enc P w base spare held t v d ps) :
    ∃ s : ByteArray, v = .string s ∧ d = .lit (.string s.data.toList) ∧ ps = [] ∧ s.size ≤ maxLen := by
  obtain ⟨n, rfl⟩ := okWide_string ht hval
  obtain ⟨fuel, hf⟩ := hd
  obtain ⟨n', h, hx, hw⟩ := DataW.trod_string ht hf
  simp [Value.cells] at h
  subst h
  simp only [Prod.mk.injEq] at hx
  exact ⟨n, rfl, hx.1, hx.2, hw⟩
/-- A slice of whole numbers that came in. -/
theorem rel_ints {H : Type} {enc : TypeId × Value → H} {P : Program} {W : World} {t e : TypeId} {k : IntKind} {fuel : Nat} {cs : List Value} {x : DataW H × List MemPlace} {ts : List TypeId} {ds : List (DataW H)} {j : Nat} (hu : P.underlying t = some (.slice e)) (he : P.underlying e = some (.int k)) (hc : P.cellsOf e = 1)
    (h : DataW.trod enc P W 0 (fun _ => true) true fuel t cs = some x) (hsz : (DataW.weightsEach P ts ds).all (· ≤ reachBytes) = true) (ht : ts[j]? = some t) (hd : ds[j]? = some x.1) {B : Nat} (hB : P.bytesOf e = B) :
    ∃ (A : Option Addr) (l : List Int) (c : Nat), cs = [.slice A l.length c] ∧ l.length ≤ c ∧ Rel (K0 W) W (.sl .sh l.length (l.map (IV.v <| .int k ·))) (.slice A l.length c) ∧ (∀ n ∈ l, (Lit.int k n).wf = true) ∧ l.length * B ≤ 140737488351232 := by
  rcases open_ints hu he hc h with ⟨rfl, rfl⟩ | ⟨a, len, cap, zs, rfl, _, hl, hm, hz, hx, hcell, hwz⟩
  · exact ⟨none, [], 0, rfl, Nat.le_refl _, ⟨none, 0, rfl, Nat.le_refl _, trivial, .inl rfl⟩, (fun n hn => by cases hn), by simp⟩
  · have hz' : zs.length = cap := by simpa using hz
    have hlen : (zs.take len).length = len := by rw [List.length_take]; omega
    have hsize := sized_slice hsz ht (elems := lits k (zs.take len)) (spare := lits k (zs.drop len)) (by rw [hd, hx]) hu
    rw [hB] at hsize
    have h1 : (lits (H := H) k (zs.take len)).length + (lits (H := H) k (zs.drop len)).length = zs.length := by
      simp [lits]
      omega
    rw [h1] at hsize
    refine ⟨some a, zs.take len, cap, by rw [hlen], by rw [hlen]; omega, ⟨some a, cap, rfl, by rw [hlen]; omega, trivial, ?_⟩, fun n hn => hwz n (List.mem_of_mem_take hn), by rw [hlen]; exact Nat.le_trans (Nat.mul_le_mul_right _ (by omega)) hsize⟩
    by_cases h0 : len = 0
    · left; subst h0; rfl
    · right
      have hg : ∀ i, i < (zs.take len).length → W.cell? (a.add i) = ((zs.take len).map (Value.int k))[i]? := by
        intro i hi
        rw [hlen] at hi
        rw [hcell i (by omega), List.getElem?_map, List.getElem?_take_of_lt hi, List.getElem?_eq_getElem (by omega), List.getD_eq_getElem?_getD, List.getElem?_eq_getElem (by omega)]; rfl
      have hsp : a.spot = none := by
        have := hg 0 (by rw [hlen]; omega)
        cases hs : a.spot with
        | none => rfl
        | some q =>
          exfalso
          have h2 := hcell 0 (by omega)
          unfold World.cell? at h2
          split at h2
          · have : (a.add 0).spot = some q := hs
            rw [this] at h2; simp at h2
          · cases h2
      obtain ⟨b, off, sp⟩ := a
      subst hsp
      refine ⟨b, off, rfl, ?_⟩
      have := relC_cells (w := W) (b := b) (off := off) (l := (zs.take len).map (Value.int k)) (fun i hi => by rw [List.length_map] at hi; have h5 := hg i hi; by_cases e0 : i = 0 <;> simpa [Addr.add, e0] using h5)
      rw [List.map_map] at this
      exact this
theorem relL_nil (κ : K) (w : World) : RelL κ w [] [] := rfl
theorem relL_cons {κ : K} {w : World} {i : IV} {v : Value} {l : List IV} {vs : List Value} (h : Rel κ w i v) (g : RelL κ w l vs) : RelL κ w (i :: l) (v :: vs) := ⟨v, vs, rfl, h, g⟩
theorem rel_v (κ : K) (w : World) (x : Value) : Rel κ w (.v x) x := rfl
theorem int_wf {x : Int} (h : (Lit.int .i64 x).wf = true) : -9223372036854775808 ≤ x ∧ x ≤ 9223372036854775807 := by
  simp [Lit.wf, IntKind.min, IntKind.max, IntKind.signed, IntKind.bits] at h
  omega
end Go.Proofs.Ytphjldhdnmoolaa.A
