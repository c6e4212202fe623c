/- Joined: T4, T5, I3, I4, I5 -/
import Derived.Test.YtphjldhdnmoolaaJBase5
set_option linter.unusedVariables false
set_option linter.unusedSimpArgs false
/- The walks of some functions over the abstract machine. -/
namespace Go.Proofs.Ytphjldhdnmoolaa.A
open Go
/-! what is turned round undoes -/
theorem agr.app {E L : Env} {a b : List Ent} (h : agr (nm E) a b) (g : agr (nm L) a b) : agr (nm (E ++ L)) a b := fun s hs => by
  rcases nm_app.1 hs with h1 | h1
  · exact h s h1
  · exact g s h1
theorem agr.put {E : Env} {a b : RS} (h : agr (nm E) a.kn b.kn) (s : Bytes) (t v : Int) : agr (nm (E ++ [(s, t)])) (a.put s v).kn (b.put s v).kn := fun x hx => by
  show getM x (putM s v a.kn a.kc).1 = getM x (putM s v b.kn b.kc).1
  rw [putM_get, putM_get]
  by_cases e : x = s
  · rw [if_pos e, if_pos e]
  · rw [if_neg e, if_neg e]
    rcases nm_app.1 hx with h1 | h1
    · exact h x h1
    · exact absurd (by simpa using h1) e
theorem frm.agr {V : List Bytes} {a b : RS} (h : frm V a b) {E : Env} (hd : ∀ x ∈ V, x ∉ nm E) : agr (nm E) a.kn b.kn := fun s hs => (h s fun hv => hd s hv hs).symm
theorem agr.symm {V : List Bytes} {a b : List Ent} (h : agr V a b) : agr V b a := fun s hs => (h s hs).symm
theorem agr.trans {V : List Bytes} {a b c : List Ent} (h : agr V a b) (g : agr V b c) : agr V a c := fun s hs => (h s hs).trans (g s hs)
theorem agr.sub {E L : Env} {a b : List Ent} (h : agr (nm (E ++ L)) a b) : agr (nm E) a b := fun s hs => h s (nm_app.2 (.inl hs))
theorem cells_hd {x : List Expr} (h : cells x = false) : ∀ e ∈ x, cellsE e = false := by
  induction x with
  | nil => intro e he; cases he
  | cons y l ih =>
    rw [cells, Bool.or_eq_false_iff] at h
    intro e he
    rcases List.mem_cons.1 he with rfl | he
    · exact h.1
    · exact ih h.2 e he
theorem lets_run : ∀ (l : List Stmt) (E : Env), fitTs l → okB l E → (∀ x ∈ dcB l, x ∉ nm E) → (dcB l).Nodup → readsTs l = false → ∀ (a b : RS), runB l a = some b → ∀ a', agr (nm E) a.kn a'.kn → ∃ c, runB (letsT l) a' = some c ∧ c.cs = a'.cs ∧ c.lsn = a'.lsn ∧ agr (nm (E ++ letsE l E)) b.kn c.kn
  | [], E, hf, h, hd, hn, hr, a, b, hab, a', hag => by
    rw [runB] at hab; cases hab
    exact ⟨a', rfl, rfl, rfl, by rw [letsE, List.append_nil]; exact hag⟩
  | s :: l, E, hf, h, hd, hn, hr, a, b, hab, a', hag => by
    rw [readsTs, Bool.or_eq_false_iff] at hr
    rw [runB] at hab
    obtain ⟨a1, h1, h2⟩ := bind_some hab
    rw [dcB] at hd hn
    obtain ⟨n1, n2, _⟩ := List.nodup_append.1 hn
    have ds : ∀ x ∈ dcT s, x ∉ nm E := fun x hx => hd x (List.mem_append_left _ hx)
    have dl : ∀ x ∈ dcB l, x ∉ nm (E ++ letE s E) := fun x hx hm => by
      rcases nm_app.1 hm with g | g
      · exact hd x (List.mem_append_right _ hx) g
      · exact disj_app hn (letE_sub g) hx
    rw [letsT, letsE, ← List.append_assoc]
    by_cases k1 : s.k = 1
    · rw [if_pos k1]
      obtain ⟨y, e, p, q, rfl⟩ := fitT_let hf.1 k1
      have hk := okT_let h.1 k1
      simp only [Stmt.x, List.getD_cons_zero] at hk
      have hc : cellsE e = false := by
        have := hr.1
        rw [readsT, Bool.or_eq_false_iff] at this
        exact cells_hd this.1 e (by simp)
      have hv := valE_agr hag e hk hc
      rw [runS, if_pos rfl] at h1
      obtain ⟨v, g1, rfl⟩ := map_some h1
      simp only [List.getD_cons_zero] at g1
      have hL : letE (.mk 1 y [e] q [] [] p) E = [(y, (kindE e E (0, 0)).1)] := rfl
      have hag2 : agr (nm (E ++ letE (.mk 1 y [e] q [] [] p) E)) (a.put y v).kn (a'.put y v).kn := by rw [hL]; exact hag.put y _ v
      obtain ⟨c, c1, c2, c3, c4⟩ := lets_run l _ hf.2 h.2 dl n2 hr.2 _ b h2 (a'.put y v) hag2
      refine ⟨c, ?_, c2, c3, c4⟩
      rw [runB, runS, if_pos rfl]
      show ((valE e a').map fun v => a'.put y v).bind _ = _
      rw [← hv, g1]; exact c1
    · rw [if_neg k1]
      have he := letE_no (E := E) k1
      have hag2 : agr (nm (E ++ letE s E)) a1.kn a'.kn := by
        rw [he, List.append_nil]
        exact (((runS_frm s a a1 h1).agr ds).symm).trans hag
      exact lets_run l _ hf.2 h.2 dl n2 hr.2 a1 b h2 a' hag2
mutual
theorem undoS : ∀ (s : Stmt) (E : Env), fitT s → okT s E → (∀ x ∈ dcT s, x ∉ nm E) → (dcT s).Nodup → hasT 2 2 s = false → readsT s = false → ¬ s.k = 1 → ∀ (a b : RS), runS s a = some b → okC a.cs → ∀ a', a'.cs = b.cs → agr (nm E) a.kn a'.kn → ∃ b', runS (turnS s) a' = some b' ∧ b'.cs = a.cs
  | .mk k s x n c e p, E, hf, h, hd, hn, hh, hr, hk1, a, b, hab, hC, a', he, hag => by
    have k1 : ¬ k = 1 := hk1
    obtain ⟨hfx, hfb, hfe, _, hk⟩ := hf
    rw [hasT, Bool.or_eq_false_iff, Bool.or_eq_false_iff] at hh
    have k2 : ¬ k = 2 := fun e => by rw [e] at hh; simp at hh
    rw [readsT, Bool.or_eq_false_iff, Bool.or_eq_false_iff] at hr
    rw [okT, if_neg k1] at h
    rw [dcT, if_neg k1] at hd hn
    rw [runS, if_neg k1] at hab
    rw [turnS_eq, runS, if_neg (fun h => k1 ((kinds_1 k).1 h))]
    have blk : ∀ (l : List Stmt) (F : Env), fitTs l → okB l F → (∀ x ∈ dcB l, x ∉ nm F) → (dcB l).Nodup → readsTs l = false → (∀ (a b : RS), runB l a = some b → okC a.cs → ∀ a', a'.cs = b.cs → agr (nm (F ++ letsE l F)) b.kn a'.kn → ∃ b', runB (turnR l).reverse a' = some b' ∧ b'.cs = a.cs ∧ agr (nm (F ++ letsE l F)) a'.kn b'.kn) →
        ∀ (a b : RS), runB l a = some b → okC a.cs → ∀ a', a'.cs = b.cs → agr (nm F) a.kn a'.kn → ∃ b', runB (turnB l) a' = some b' ∧ b'.cs = a.cs := fun l F h1 h2 h3 h4 h5 hU a b hab hC a' he hag => by
      obtain ⟨c, c1, c2, c3, c4⟩ := lets_run l F h1 h2 h3 h4 h5 a b hab a' hag
      obtain ⟨b', g1, g2, _⟩ := hU a b hab hC c (c2.trans he) c4
      exact ⟨b', by rw [turnB, runB_app, c1]; exact g1, g2⟩
    by_cases k6 : k = 6
    · rw [if_pos k6] at h hd hn hab
      rw [if_pos ((kinds_6 k).2 k6)]
      obtain ⟨n1, n2, _⟩ := List.nodup_append.1 hn
      have d1 := fun x hx => hd x (List.mem_append_left _ hx)
      have d2 := fun x hx => hd x (List.mem_append_right _ hx)
      obtain ⟨y, rfl⟩ : ∃ y, x = [y] := by
        rcases hk with ⟨h2, _⟩ | ⟨h2, _⟩ | ⟨_, y, rfl⟩ | ⟨h2, _⟩
        · omega
        · omega
        · exact ⟨y, rfl⟩
        · omega
      have hv := need_agr hag h.1 (cells_hd hr.1 y (by simp))
      obtain ⟨v, g1, g2⟩ := bind_some hab
      have g1' : valE y a' = some v := hv.symm.trans g1
      show ∃ b', ((valE y a').bind fun v => if v = 0 then runB (turnB e) a' else runB (turnB c) a') = some b' ∧ _
      rw [g1']
      show ∃ b', (if v = 0 then runB (turnB e) a' else runB (turnB c) a') = some b' ∧ _
      by_cases v0 : v = 0
      · rw [if_pos v0] at g2 ⊢
        exact blk e E hfe h.2.2 d2 n2 hr.2.2 (undoR e E hfe h.2.2 d2 n2 hh.2.2 hr.2.2) a b g2 hC a' he hag
      · rw [if_neg v0] at g2 ⊢
        exact blk c E hfb h.2.1 d1 n1 hr.2.1 (undoR c E hfb h.2.1 d1 n1 hh.2.1 hr.2.1) a b g2 hC a' he hag
    rw [if_neg k6] at h hd hn hab
    rw [if_neg (fun x => k6 ((kinds_6 k).1 x))]
    by_cases k7 : k = 7 ∨ k = 8
    · rw [if_pos k7] at h hd hn
      rw [List.nodup_cons] at hn
      have d1 : ∀ x ∈ dcB c, x ∉ nm (E ++ [(s, (1 : Int))]) := fun x hx => by
        rw [nm_app]
        rintro (h1 | h1)
        · exact hd x (List.mem_cons_of_mem _ hx) h1
        · have : x = s := by simpa using h1
          exact hn.1 (this ▸ hx)
      have hB := blk c _ hfb h.2 d1 hn.2 hr.2.1 (undoR c (E ++ [(s, (1 : Int))]) hfb h.2 d1 hn.2 hh.2.1 hr.2.1)
      have hJ : ∀ (i : Int) (x y : RS), runB c (x.put s i) = some y → (okC x.cs ∧ agr (nm E) a.kn x.kn) → (okC y.cs ∧ agr (nm E) a.kn y.kn) := fun i x y hxy hx => by
        refine ⟨runB_okC c hh.2.1 _ y hxy hx.1, hx.2.trans ?_⟩
        have hfr : frm (s :: dcB c) x y := (frm.put x (List.mem_cons_self ..) i).trans ((runB_frm c _ y hxy).weak fun z hz => List.mem_cons_of_mem _ hz)
        exact hfr.agr hd
      have hU : ∀ (i : Int) (x y : RS), runB c (x.put s i) = some y → (okC x.cs ∧ agr (nm E) a.kn x.kn) → ∀ y' : RS, y'.cs = y.cs → agr (nm E) a.kn y'.kn → ∃ x', runB (turnB c) (y'.put s i) = some x' ∧ x'.cs = x.cs ∧ agr (nm E) a.kn x'.kn := fun i x y hxy hx y' hy hA => by
        obtain ⟨x', g1, g2⟩ := hB (x.put s i) y hxy hx.1 (y'.put s i) hy ((hx.2.symm.trans hA).put s 1 i)
        refine ⟨x', g1, g2, hA.trans ?_⟩
        have hfr : frm (s :: dcB c) y' x' := (frm.put y' (List.mem_cons_self ..) i).trans ((runB_frm _ _ x' g1).weak fun z hz => List.mem_cons_of_mem _ ((dcB_tn hfb).mem_iff.1 hz))
        exact hfr.agr hd
      have hA0 : agr (nm E) a.kn a.kn := fun _ _ => rfl
      rcases k7 with rfl | rfl
      · rw [if_pos rfl] at hab
        rw [show kindsP 7 = 8 from rfl, if_neg (by decide), if_pos rfl]
        obtain ⟨b', g1, g2, _⟩ := undo_up hJ hU n.toNat a b hab ⟨hC, hA0⟩ a' he hag
        exact ⟨b', g1, g2⟩
      · rw [if_neg (by decide), if_pos rfl] at hab
        rw [show kindsP 8 = 7 from rfl, if_pos rfl]
        obtain ⟨b', g1, g2, _⟩ := undo_dn hJ hU n.toNat a b hab ⟨hC, hA0⟩ a' he hag
        exact ⟨b', g1, g2⟩
    · rw [if_neg k7] at h
      rw [if_neg (by omega), if_neg (by omega)] at hab
      have hq := fun x => k7 ((kinds_78 k).1 x)
      rw [if_neg (fun x => hq (.inl x)), if_neg (fun x => hq (.inr x))]
      obtain ⟨hk2, y, z, rfl⟩ : (2 ≤ k ∧ k ≤ 5) ∧ ∃ y z, x = [y, z] := by
        rcases hk with ⟨h2, _⟩ | ⟨h2, ⟨y, z, rfl⟩, _⟩ | ⟨h2, _⟩ | ⟨h2, _⟩
        · omega
        · exact ⟨h2, y, z, rfl⟩
        · omega
        · omega
      have hv1 := need_agr hag h.1 (cells_hd hr.1 y (by simp))
      have hv2 := need_agr hag h.2 (cells_hd hr.1 z (by simp))
      obtain ⟨u, g1, g2⟩ := bind_some hab
      obtain ⟨v, g3, rfl⟩ := map_some g2
      refine ⟨chg (kindsP k) u v a', ?_, chg_undo (by omega) hC he⟩
      have g1' : valE y a' = some u := hv1.symm.trans g1
      have g3' : valE z a' = some v := hv2.symm.trans g3
      show (valE y a').bind (fun u => (valE z a').map _) = _
      rw [g1', g3']; rfl
theorem undoR : ∀ (l : List Stmt) (E : Env), fitTs l → okB l E → (∀ x ∈ dcB l, x ∉ nm E) → (dcB l).Nodup → hasTs 2 2 l = false → readsTs l = false → ∀ (a b : RS), runB l a = some b → okC a.cs → ∀ a', a'.cs = b.cs → agr (nm (E ++ letsE l E)) b.kn a'.kn → ∃ b', runB (turnR l).reverse a' = some b' ∧ b'.cs = a.cs ∧ agr (nm (E ++ letsE l E)) a'.kn b'.kn
  | [], E, hf, h, hd, hn, hh, hr, a, b, hab, hC, a', he, hag => by
    rw [runB] at hab; cases hab
    exact ⟨a', rfl, he, fun _ _ => rfl⟩
  | s :: l, E, hf, h, hd, hn, hh, hr, a, b, hab, hC, a', he, hag => by
    have hfr := runB_frm _ a b hab
    rw [readsTs, Bool.or_eq_false_iff] at hr
    rw [hasTs, Bool.or_eq_false_iff] at hh
    rw [runB] at hab
    obtain ⟨a1, h1, h2⟩ := bind_some hab
    have hfa := hfr.agr hd
    rw [dcB] at hd hn
    obtain ⟨n1, n2, _⟩ := List.nodup_append.1 hn
    have ds : ∀ x ∈ dcT s, x ∉ nm E := fun x hx => hd x (List.mem_append_left _ hx)
    have dl : ∀ x ∈ dcB l, x ∉ nm (E ++ letE s E) := fun x hx hm => by
      rcases nm_app.1 hm with g | g
      · exact hd x (List.mem_append_right _ hx) g
      · exact disj_app hn (letE_sub g) hx
    have hC1 := runS_okC s hh.1 a a1 h1 hC
    rw [letsE, ← List.append_assoc] at hag ⊢
    obtain ⟨b1, g1, g2, g3⟩ := undoR l _ hf.2 h.2 dl n2 hh.2 hr.2 a1 b h2 hC1 a' he hag
    rw [turnR]
    by_cases k1 : s.k = 1
    · rw [if_pos k1]
      refine ⟨b1, g1, ?_, g3⟩
      obtain ⟨y, e, p, q, rfl⟩ := fitT_let hf.1 k1
      rw [runS, if_pos rfl] at h1
      obtain ⟨v, _, rfl⟩ := map_some h1
      exact g2
    · rw [if_neg k1, List.reverse_cons, runB_app, g1]
      have e1 := letE_no (E := E) k1
      have hq : agr (nm E) a.kn b1.kn := (hfa.trans hag.sub.sub).trans g3.sub.sub
      obtain ⟨b2, q1, q2⟩ := undoS s E hf.1 h.1 ds n1 hh.1 hr.1 k1 a a1 h1 hC b1 g2 hq
      refine ⟨b2, ?_, q2, g3.trans ?_⟩
      · show (runS (turnS s) b1).bind (fun r => some r) = _
        rw [q1]; rfl
      · refine (runS_frm _ b1 b2 q1).agr fun x hx hm => ?_
        have hx' := (dcT_turn s hf.1).mem_iff.1 hx
        rcases nm_app.1 hm with g | g
        · rw [e1, List.append_nil] at g; exact ds x hx' g
        · have hp := dcB_split l (E ++ letE s E)
          exact disj_app hn hx' (hp.mem_iff.2 (List.mem_append_left _ g))
end
theorem undoB {l : List Stmt} {E : Env} (hf : fitTs l) (h : okB l E) (hd : ∀ x ∈ dcB l, x ∉ nm E) (hn : (dcB l).Nodup) (hh : hasTs 2 2 l = false) (hr : readsTs l = false) {a b : RS} (hab : runB l a = some b) (hC : okC a.cs) {a' : RS} (he : a'.cs = b.cs) (hag : agr (nm E) a.kn a'.kn) : ∃ b', runB (turnB l) a' = some b' ∧ b'.cs = a.cs := by
  obtain ⟨c, c1, c2, c3, c4⟩ := lets_run l E hf h hd hn hr a b hab a' hag
  obtain ⟨b', g1, g2, _⟩ := undoR l E hf h hd hn hh hr a b hab hC c (c2.trans he) c4
  exact ⟨b', by rw [turnB, runB_app, c1]; exact g1, g2⟩
end Go.Proofs.Ytphjldhdnmoolaa.A
/- The walks of some functions over the abstract machine. -/
namespace Go.Proofs.Ytphjldhdnmoolaa.A
open Go
/-! what is turned round undoes: operations -/
abbrev envP (l : List Bytes) : Env := l.map fun p => (p, (1 : Int))
theorem nm_envP : ∀ l : List Bytes, nm (envP l) = l
  | [] => rfl
  | p :: l => congrArg (p :: ·) (nm_envP l)
structure Chk (d : Def) : Prop where
  p8 : d.params.length ≤ 8
  ok : okB d.body (envP d.params)
  nd : (d.params ++ dcB d.body).Nodup
  l16 : (d.params ++ dcB d.body).length ≤ 16
  steps : stepTs d.body 0 ≤ 2048
theorem declK_0 : ∀ (l : List Bytes) (E : Env) (S : KS), (declK l E S).2.ft.1 = 0 → S.ft.1 = 0 := fun l E S h => Classical.byContradiction fun hn => by rw [declK_ft hn l E S rfl] at h; exact hn h
theorem declK_inv : ∀ (l : List Bytes) (E : Env) (dl : List Bytes), dl.Nodup → dl.length ≤ 16 → (declK l E ⟨dl, (0, 0)⟩).2.ft.1 = 0 → (dl ++ l).Nodup ∧ (dl ++ l).length ≤ 16
  | [], E, dl, hn, hl, h => by rw [List.append_nil]; exact ⟨hn, hl⟩
  | p :: l, E, dl, hn, hl, h => by
    rw [declK] at h
    obtain ⟨h1, h2⟩ := declare_inv (declK_0 _ _ _ h)
    rw [declare_ok h1 h2] at h
    have hn2 : (dl ++ [p]).Nodup := List.nodup_append.2 ⟨hn, by simp, fun a ha b hb e => h1 (by rw [List.mem_singleton] at hb; rw [← hb, ← e]; exact ha)⟩
    rw [List.append_cons dl p l]
    exact declK_inv l _ _ hn2 (by simp; omega) h
theorem declK_ok : ∀ (l : List Bytes) (E : Env) (dl : List Bytes), (dl ++ l).Nodup → (dl ++ l).length ≤ 16 → declK l E ⟨dl, (0, 0)⟩ = (E ++ envP l, ⟨dl ++ l, (0, 0)⟩)
  | [], E, dl, hn, hl => by rw [declK]; simp
  | p :: l, E, dl, hn, hl => by
    rw [List.append_cons dl p l] at hn hl
    have hno : p ∉ dl := fun hm => (List.nodup_append.1 (nodup_left hn)).2.2 _ hm _ (List.mem_singleton.2 rfl) rfl
    rw [declK, declare_ok hno (by simp at hl; omega), declK_ok l _ _ hn hl]
    simp
theorem needsK_zz (w : Int) (E : Env) : ∀ (l : List Expr) (n : Int) (st : Int × Int), zz st → zz (needsK w l E n st).2
  | [], n, st, h => h
  | e :: l, n, st, h => by rw [needsK]; exact needsK_zz w E l _ _ (needE_zz h e w E)
theorem sizeEs_nn (l : List Expr) : 0 ≤ sizeEs l ∧ sizeEs l ≤ szs l := by have := sizeEs_bd l; omega
mutual
theorem fit_fine : ∀ s : Stmt, fitT s → fineT s
  | .mk k s x n b e p, h => by
    obtain ⟨_, hb, he, hn, hk⟩ := h
    refine ⟨hn.1, fun h1 => ?_, fits_fine b hb, fits_fine e he⟩
    rcases hk with ⟨_, ⟨a, rfl⟩, _⟩ | ⟨h2, _⟩ | ⟨h2, _⟩ | ⟨h2, _⟩
    · simp
    · omega
    · omega
    · omega
theorem fits_fine : ∀ l : List Stmt, fitTs l → fineTs l
  | [], _ => trivial
  | s :: l, h => ⟨fit_fine s h.1, fits_fine l h.2⟩
end
theorem stepB_bd {l : List Stmt} (hf : fitTs l) (hs : smTs l) (hz : szt l < 900000) : 0 ≤ stepTs l 0 ∧ stepTs l 0 ≤ 1073741824 := by
  have h1 := stepTs_sum l 0 (stepTs_bd l hf hs hz) (by omega) (by omega)
  omega
theorem chk_of {d : Def} (hf : FitD d) (ho : DefOK d) (h : (rcheck d).2.1 = 0) : Chk d := by
  have h8 : d.params.length ≤ 8 := by
    unfold rcheck at h
    split at h
    · exact absurd h (by decide)
    · omega
  have hF : (rF d).1 = 0 := by
    unfold rcheck at h
    split at h
    · exact absurd h (by decide)
    · split at h
      · exact h
      · rename_i hn; exact Classical.byContradiction hn
  have hG : (rG d).2.1 = 0 ∧ (rG d).1 ≤ 2048 := by
    unfold rF at hF
    split at hF
    · exact absurd hF (failF_nz2 _ (by decide) _)
    · exact ⟨hF, by omega⟩
  have hB : (rB d).2.ft.1 = 0 := Classical.byContradiction fun hn => by
    have := hG.1
    unfold rG at this; rw [needsK_ft hn] at this; exact hn this
  have hN : (rN d).2.1 = 0 := by unfold rB at hB; exact blockK_0 hB
  have hP : (rP d).2.ft.1 = 0 := Classical.byContradiction fun hn => by
    unfold rN at hN; rw [needsK_ft hn] at hN; exact hn hN
  obtain ⟨p1, p2⟩ := declK_inv d.params [] [] List.nodup_nil (by simp) hP
  have hPe := declK_ok d.params [] [] p1 p2
  rw [List.nil_append, List.nil_append] at hPe
  have hPe2 : rP d = (envP d.params, ⟨d.params, (0, 0)⟩) := hPe
  rw [List.nil_append] at p1 p2
  have hNe : (rN d).2 = (0, 0) := by
    refine zz.eq ?_ hN
    unfold rN; rw [hPe2]; exact needsK_zz _ _ _ _ _ z00
  have hB2 := hB
  unfold rB at hB2
  rw [hNe, hPe2] at hB2
  obtain ⟨b1, b2, b3⟩ := blockK_inv d.body _ _ p1 p2 hB2
  refine ⟨h8, b1, b2, b3, ?_⟩
  have hsz := ho.size
  have hbd := stepB_bd hf.body (okB_sm _ _ hf.body b1) (by omega)
  have e1 := sizeEs_nn d.needs
  have e2 := sizeEs_nn d.give
  have q1 : (rN d).1 = stepTs d.body 0 + sizeEs d.needs := by
    unfold rN; exact needsK_fst 2 _ _ _ _ hbd.1 (by omega)
  have q2 : (rG d).1 = (rN d).1 + sizeEs d.give := by
    unfold rG; exact needsK_fst 1 _ _ _ _ (by omega) (by omega)
  omega
theorem chk_rcheck {d : Def} (h : Chk d) (hn : d.needs = []) (hg : d.give = []) : rcheck d = (⟨rMode d, stepTs d.body 0, ((d.params ++ dcB d.body).length : Nat), !hasTs 2 2 d.body && !readsTs d.body⟩, 0, 0) := by
  have hPe := declK_ok d.params [] [] (nodup_left h.nd) (by have := h.p8; simp; omega)
  rw [List.nil_append, List.nil_append] at hPe
  have hP : rP d = (envP d.params, ⟨d.params, (0, 0)⟩) := hPe
  have hN : rN d = (stepTs d.body 0, (0, 0)) := by unfold rN; rw [hP, hn]; rfl
  have hB : rB d = (envP d.params ++ letsE d.body (envP d.params), ⟨d.params ++ dcB d.body, (0, 0)⟩) := by
    unfold rB; rw [hP, hN]; exact blockK_ok d.body _ _ h.ok h.nd h.l16
  have hG : rG d = (stepTs d.body 0, (0, 0)) := by unfold rG; rw [hB, hN, hg]; rfl
  have hF : rF d = (0, 0) := by unfold rF; rw [hG, if_neg (by have := h.steps; dsimp only; omega)]
  unfold rcheck
  rw [if_neg (by have := h.p8; omega), hF, hG, hB]; rfl
theorem fit_turn {d : Def} (hf : FitD d) : FitD (turnD d) := ⟨trivial, fitB_turn hf.body, trivial, .inl rfl⟩
theorem ok_turn {d : Def} (hf : FitD d) (ho : DefOK d) : DefOK (turnD d) := ⟨by
  have := ho.size
  show szs [] + szt (turnB d.body) + szs [] < 800000
  rw [szB_turn hf.body]; simp only [szs]; omega, ho.params, fits_fine _ (fitB_turn hf.body)⟩
theorem chk_turn {d : Def} (hf : FitD d) (ho : DefOK d) (h : Chk d) : Chk (turnD d) := by
  have hn := List.nodup_append.1 h.nd
  have hp : (d.params ++ dcB (turnB d.body)).Perm (d.params ++ dcB d.body) := (dcB_tn hf.body).append_left _
  refine ⟨h.p8, okB_turn hf.body h.ok (fun x hx => ?_) hn.2.1, hp.nodup_iff.2 h.nd, ?_, ?_⟩
  · rw [nm_envP]; exact fun hm => disj_app h.nd hm hx
  · rw [show (turnD d).params ++ dcB (turnD d).body = d.params ++ dcB (turnB d.body) from rfl, hp.length_eq]; exact h.l16
  · have := ho.size
    show stepTs (turnB d.body) 0 ≤ 2048
    rw [stepB_turn hf.body (okB_sm _ _ hf.body h.ok) (by omega)]; exact h.steps
theorem turn_rcheck {d : Def} (hf : FitD d) (ho : DefOK d) (h : Chk d) (hn : d.needs = []) (hg : d.give = []) : rcheck (turnD d) = rcheck d := by
  have hs := ho.size
  rw [chk_rcheck h hn hg, chk_rcheck (chk_turn hf ho h) rfl rfl]
  have e1 : hasTs 2 2 (turnD d).body = hasTs 2 2 d.body := hasB_turn kinds_22 hf.body
  have e2 : hasTs 5 5 (turnD d).body = hasTs 5 5 d.body := hasB_turn kinds_55 hf.body
  have e3 : hasTs 2 5 (turnD d).body = hasTs 2 5 d.body := hasB_turn kinds_25 hf.body
  have e4 : readsTs (turnD d).body = readsTs d.body := readsB_turn hf.body
  have e5 : stepTs (turnD d).body 0 = stepTs d.body 0 := stepB_turn hf.body (okB_sm _ _ hf.body h.ok) (by omega)
  have e6 : ((turnD d).params ++ dcB (turnD d).body).length = (d.params ++ dcB d.body).length := ((dcB_tn hf.body).append_left d.params).length_eq
  have e7 : rMode (turnD d) = rMode d := by unfold rMode; rw [e1, e2, e3, e4, hn, hg]; rfl
  rw [e1, e4, e5, e6, e7]
/-- What is given and what is needed left away. -/
def bare (d : Def) : Def := ⟨d.name, d.params, [], d.body, []⟩
theorem turn_bare (d : Def) : turnD (bare d) = turnD d := rfl
theorem fit_bare {d : Def} (hf : FitD d) : FitD (bare d) := ⟨trivial, hf.body, trivial, .inl rfl⟩
theorem ok_bare {d : Def} (ho : DefOK d) : DefOK (bare d) := ⟨by have := ho.size; show szs [] + szt d.body + szs [] < 800000; simp only [szs]; omega, ho.params, ho.fine⟩
theorem chk_code {d : Def} (h : Chk d) (hn : d.needs = []) (hg : d.give = []) : (rcheck d).2.1 = 0 := by rw [chk_rcheck h hn hg]
theorem undo_run {d : Def} (hf : FitD d) (ho : DefOK d) (hc : (rcheck d).2.1 = 0) (hh : hasTs 2 2 d.body = false) (hr : readsTs d.body = false) {lsn : Int} {cs args : List Int} (hC : okC cs) {r : RunR} (h : runP d lsn cs args = some r) (he : r.e = 0) :
    r.lsn = lsn ∧ okC r.cs ∧ runP (turnD d) lsn r.cs args = some ⟨lsn, cs, 0, 0⟩ := by
  have hk := chk_of hf ho hc
  have hkt := chk_turn hf ho hk
  have hnt := (check_none (fit_turn hf) (ok_turn hf ho)).1 (chk_code hkt rfl rfl)
  have hnd := List.nodup_append.1 hk.nd
  unfold runP at h
  rw [if_neg (fun e => e ((check_none hf ho).1 hc))] at h
  by_cases ha : args.length = d.params.length
  rotate_left
  · rw [if_pos ha] at h; cases h; exact absurd he (by decide)
  rw [if_neg (fun e => e ha)] at h
  obtain ⟨ok, h1, h2⟩ := bind_some h
  cases ok with
  | false => cases h2; exact absurd he (by decide)
  | true =>
    rw [if_pos rfl] at h2
    obtain ⟨b, h3, h4⟩ := bind_some h2
    obtain ⟨n, h5, rfl⟩ := map_some h4
    have hst := runB_stays d.body hf.body _ _ h3
    have hCb := runB_okC d.body hh _ _ h3 hC
    obtain ⟨b', g1, g2⟩ := undoB hf.body hk.ok (fun x hx => by rw [nm_envP]; exact fun hm => disj_app hk.nd hm hx) hnd.2.1 hh hr h3 hC (a' := rs0 (turnD d) lsn b.cs args) rfl (fun _ _ => rfl)
    have hst2 := runB_stays _ (fitB_turn hf.body) _ _ g1
    refine ⟨hst.1, hCb, ?_⟩
    unfold runP
    rw [if_neg (fun e => e hnt), if_neg (show ¬ args.length ≠ (turnD d).params.length from fun e => e ha)]
    show (runB (turnB d.body) (rs0 (turnD d) lsn b.cs args)).bind (fun r => some (⟨r.lsn, r.cs, 0, 0⟩ : RunR)) = _
    rw [g1]
    show some (⟨b'.lsn, b'.cs, 0, 0⟩ : RunR) = _
    rw [hst2.1, g2]; rfl
theorem again_run {d : Def} (hf : FitD d) (ho : DefOK d) (hc : (rcheck d).2.1 = 0) (hh : hasTs 2 2 d.body = false) (hr : readsTs d.body = false) (hn : d.needs = []) (hg : d.give = []) {cs args : List Int} (hC : okC cs) :
    ∃ r, runP d 5 cs args = some r ∧ runP (turnD (turnD d)) 5 cs args = some r ∧ r.cs.length = 60 ∧ (r.e = 0 ∨ r.e = 2) := by
  have hk := chk_of hf ho hc
  have hkt := chk_turn hf ho hk
  have hku := chk_turn (fit_turn hf) (ok_turn hf ho) hkt
  have hnu := (check_none (fit_turn (fit_turn hf)) (ok_turn (fit_turn hf) (ok_turn hf ho))).1 (chk_code hku rfl rfl)
  by_cases ha : args.length = d.params.length
  rotate_left
  · refine ⟨fault0 2, ?_, ?_, rfl, .inr rfl⟩
    · unfold runP; rw [if_neg (fun e => e ((check_none hf ho).1 hc)), if_pos ha]
    · unfold runP; rw [if_neg (fun e => e hnu), if_pos (show args.length ≠ (turnD (turnD d)).params.length from ha)]
  obtain ⟨r, h1, _, h3⟩ := reads_run hf ho cs args hC.1
  have h4 : runP d 5 cs args = some r ∧ r.e = 0 ∧ r.n = 0 := by
    refine ⟨h1, ?_⟩
    obtain ⟨_, b, h5, n, h6⟩ := run_fine hf hc 5 cs args ha
    unfold runP at h1
    rw [if_neg (fun e => e ((check_none hf ho).1 hc)), if_neg (fun e => e ha), hn] at h1
    rw [hg] at h6
    cases h6
    have h1' : ((runB d.body (rs0 d 5 cs args)).bind fun r => (giveP d.give 0 r).map fun n => (⟨r.lsn, r.cs, n, 0⟩ : RunR)) = some r := h1
    rw [h5, hg] at h1'
    cases h1'
    exact ⟨rfl, rfl⟩
  obtain ⟨g1, g2, g3⟩ := undo_run hf ho hc hh hr hC h1 h4.2.1
  have hht : hasTs 2 2 (turnD d).body = false := (hasB_turn kinds_22 hf.body).trans hh
  have hrt : readsTs (turnD d).body = false := (readsB_turn hf.body).trans hr
  obtain ⟨q1, q2, q3⟩ := undo_run (fit_turn hf) (ok_turn hf ho) (chk_code hkt rfl rfl) hht hrt g2 g3 rfl
  refine ⟨r, h1, ?_, g2.1, .inl h4.2.1⟩
  rw [q3]
  obtain ⟨rl, rc, rn, re⟩ := r
  simp only at g1 h4
  rw [h4.2.1, h4.2.2, g1]
end Go.Proofs.Ytphjldhdnmoolaa.A
/- The walks of some functions over the abstract machine. -/
namespace Go.Proofs.Ytphjldhdnmoolaa.A
open Go
/-! law10: what all its statements use -/
set_option maxRecDepth 100000 in
set_option maxHeartbeats 4000000 in
theorem filled10_sim (m : Mem) (l : List Int) (hl : l.length < 4000000000000000000) : Sim 29 [.sl .sh l.length (l.map (IV.v <| .int .i64 ·))] m (fun r m' => r = .agg (pgI 5 (filledP l)) ∧ m' = m) := by
  have hg : l.length = 0 ↔ l = [] := List.length_eq_zero_iff
  refine Sim.ofS 24 [.cell 2 50] Try.func29 rfl rfl rfl (by simp) fun wr => ?_
  simp only [go_sem, Nat.reduceEqDiff, Nat.reduceBEq, Int.reduceToNat, Int.reduceLT, Int.reduceLE, Int.reduceEq, Nat.reduceLeDiff, Nat.reduceLT, Nat.reduceMul, Nat.reduceAdd, String.reduceEq]
  refine TS.seq (TS.of [] fun Q hQ => ?_)
  simp only [go_sem, Nat.reduceEqDiff, Nat.reduceBEq, Int.reduceToNat, Int.reduceLT, Int.reduceLE, Int.reduceEq, Nat.reduceLeDiff, Nat.reduceLT, Nat.reduceMul, Nat.reduceAdd, String.reduceEq]
  refine hQ .normal _ ?_; clear hQ Q
  refine TS.seq (TS.of [] fun Q hQ => ?_)
  simp only [go_sem, Nat.reduceEqDiff, Nat.reduceBEq, Int.reduceToNat, Int.reduceLT, Int.reduceLE, Int.reduceEq, Nat.reduceLeDiff, Nat.reduceLT, Nat.reduceMul, Nat.reduceAdd, String.reduceEq]
  refine hQ .normal _ ?_; clear hQ Q
  refine TS.seq (TS.seq (TS.of [] fun Q hQ => ?_))
  simp only [go_sem, Nat.reduceEqDiff, Nat.reduceBEq, Int.reduceToNat, Int.reduceLT, Int.reduceLE, Int.reduceEq, Nat.reduceLeDiff, Nat.reduceLT, Nat.reduceMul, Nat.reduceAdd, String.reduceEq]
  refine hQ .normal _ ?_; clear hQ Q
  refine TS.block (TS.loop (α := Nat) (fun k => [(0, .sl .sh l.length (l.map (IV.v <| .int .i64 ·))), (2, .ptr m.objs.length 0), (3, .ptr (m.objs.length + 1) 0), (6, ii k)]) (fun k => ⟨m.objs ++ [.cells zP, .cells (pgI 5 (fillK l k))], m.rows⟩) (fun k => k ≤ 60) (fun k => 60 - k) 0 (by simp) ⟨by simp [Has, upd_apply, argsT], rfl, by omega⟩ ?_)
  rintro k st hH hm hk
  simp only [Has, List.mem_cons, List.not_mem_nil, or_false, forall_eq_or_imp, forall_eq] at hH; obtain ⟨i0, i2, i3, i6⟩ := hH
  have l60 := fillK_len l k
  have hDk : ∀ c, DropW ⟨m.objs ++ [.cells zP, .cells (pgI 5 (fillK l k))], m.rows⟩ (m.objs.length + 2) m.rows.length ⟨m.objs ++ [.cells zP, .cells (pgI 5 c)], m.rows⟩ ⟨m.objs ++ [.cells zP, .cells (pgI 5 c)], m.rows⟩ := fun c => DropW.loc m.objs [.cells zP, .cells (pgI 5 (fillK l k))] [.cells zP, .cells (pgI 5 c)] [] _ _ _ (Nat.le_refl _) (by simp [IObj.np, npL, IV.np, np_ints]) (Nat.le_refl _) (by simp)
  by_cases hlt : k < 60
  · have hlt' : (k : Int) < 60 := by omega
    have hw : IntKind.i64.wrap ((k : Int) + 1) = ((k + 1 : Nat) : Int) := by rw [wrap_id (by omega) (by omega)]; omega
    by_cases hl0 : l = []
    · have hz : ¬ (0 : Int) < (l.length : Int) := by rw [hl0]; simp
      have hf : fillK l (k + 1) = fillK l k := by rw [fillK, if_pos hl0]
      refine TS.of [] fun Q hQ => ?_
      simp only [go_sem, Nat.reduceEqDiff, Nat.reduceBEq, Int.reduceToNat, Int.reduceLT, Int.reduceLE, Int.reduceEq, Nat.reduceLeDiff, Nat.reduceLT, Nat.reduceMul, Nat.reduceAdd, String.reduceEq, i0, i2, i3, i6, hm, hlt', hz, hw]
      refine hQ .normal _ ?_; clear hQ Q
      refine ⟨m.objs.length + 2, m.rows.length, k + 1, hf ▸ hDk (fillK l k), ?_, hlt, by omega⟩
      simp [upd_apply, i0, i2, i3, IV.np, np_sh, np_ints]
    · have hp : 0 < l.length := by rw [Nat.pos_iff_ne_zero]; exact fun h => hl0 (hg.1 h)
      have hp' : (0 : Int) < (l.length : Int) := by omega
      have hm0 : ¬ ((l.length : Int) = 0) := by omega
      have hmd : (k : Int).tmod (l.length : Int) = ((k % l.length : Nat) : Int) := by rw [Int.tmod_eq_emod_of_nonneg (by omega)]; rfl
      have hml := Nat.mod_lt k hp
      have hat : (l.map (IV.v <| .int .i64 ·)).drop (k % l.length) = ii (l.getD (k % l.length) 0) :: (l.map (IV.v <| .int .i64 ·)).drop (k % l.length + 1) := by
        rw [List.drop_eq_getElem_cons (by rw [List.length_map]; exact hml)]
        congr 1
        rw [List.getElem_map, List.getD_eq_getElem?_getD, List.getElem?_eq_getElem hml]; rfl
      have hf : fillK l (k + 1) = (fillK l k).set k (l.getD (k % l.length) 0) := by rw [fillK, if_neg hl0]
      have hfit : 1 + k ≤ (fillK l k).length := by omega
      have hsp := fun v a => set_c0 (i := (k : Int)) (v := v) (by omega) hlt' l60 a
      simp only [Int.toNat_natCast] at hsp
      refine TS.of [] fun Q hQ => ?_
      simp only [go_sem, Nat.reduceEqDiff, Nat.reduceBEq, Int.reduceToNat, Int.reduceLT, Int.reduceLE, Int.reduceEq, Nat.reduceLeDiff, Nat.reduceLT, Nat.reduceMul, Nat.reduceAdd, String.reduceEq, i0, i2, i3, i6, hm, hlt', hp', hm0, hmd, hml, hat, List.length_map, hw, hfit, hsp]
      refine hQ .normal _ ?_; clear hQ Q
      refine ⟨m.objs.length + 2, m.rows.length, k + 1, hf ▸ hDk _, ?_, hlt, by omega⟩
      simp [upd_apply, i0, i2, i3, IV.np, np_sh, np_ints]
  · have hlt' : ¬ (k : Int) < 60 := by omega
    refine TS.of [] fun Q hQ => ?_
    simp only [go_sem, Nat.reduceEqDiff, Nat.reduceBEq, Int.reduceToNat, Int.reduceLT, Int.reduceLE, Int.reduceEq, Nat.reduceLeDiff, Nat.reduceLT, Nat.reduceMul, Nat.reduceAdd, String.reduceEq, i0, i2, i3, i6, hm, hlt']
    refine hQ (.exit 0) _ ?_; clear hQ Q
    obtain rfl : k = 60 := by omega
    refine TS.of [] fun Q hQ => ?_
    have dz : (zeros.map (IV.v <| .int .i64 ·)).drop 60 = [] := rfl
    simp only [go_sem, Nat.reduceEqDiff, Nat.reduceBEq, Int.reduceToNat, Int.reduceLT, Int.reduceLE, Int.reduceEq, Nat.reduceLeDiff, Nat.reduceLT, Nat.reduceMul, Nat.reduceAdd, String.reduceEq, i2, i3, le60 l60, tk60 l60, ints_sh, ints_one, ml60 l60, le60 z60, dz, List.append_nil]
    refine hQ .ret _ ?_; clear hQ Q; refine post_ret _ _ (.agg (pgI 5 (filledP l))) ?_ ?_ (DropW.tail0 _ rfl) ⟨rfl, rfl⟩
    · simp only [go_sem, Nat.reduceEqDiff, Nat.reduceBEq, Int.reduceToNat, Int.reduceLT, Int.reduceLE, Int.reduceEq, Nat.reduceLeDiff, Nat.reduceLT, Nat.reduceMul, Nat.reduceAdd, String.reduceEq, i2, le60 l60, tk60 l60, ints_sh]
      rfl
    · simp [IV.np, npL, np_ints]
def turnI (d : Def) : IV := if (check d).2 = none ∧ (check d).1.turns = true then .tup [.agg (encD (turnD d)), .v .nilIface] else .tup [.agg (encD ⟨ByteArray.empty, [], [], [], []⟩), .iface 76 (ii 13)]
theorem strs_one : ∀ l : List Bytes, (l.map (IV.v <| .string ·)).all IV.one = true
  | [] => rfl
  | s :: l => by rw [List.map_cons, List.all_cons, strs_one l]; rfl
theorem strs_sh : ∀ l : List Bytes, (l.map (IV.v <| .string ·)).map IV.sh = l.map (IV.v <| .string ·)
  | [] => rfl
  | s :: l => by rw [List.map_cons, List.map_cons, strs_sh l]; rfl
set_option maxRecDepth 100000 in
set_option maxHeartbeats 4000000 in
theorem cloneS_sim (m : Mem) (l : List Bytes) (hl : l.length < 900000) : Sim 54 [slS l] m (fun r m' => r = slS l ∧ m' = m) := by
  refine Sim.ofS 8 [.tmp 2] Try.func54 rfl rfl rfl (by simp) fun wr => ?_
  simp only [go_sem, Nat.reduceEqDiff, Nat.reduceBEq, Int.reduceToNat, Int.reduceLT, Int.reduceLE, Int.reduceEq, Nat.reduceLeDiff, Nat.reduceLT, Nat.reduceMul, Nat.reduceAdd, String.reduceEq]
  refine TS.seq (TS.of [] fun Q hQ => ?_)
  simp only [go_sem, Nat.reduceEqDiff, Nat.reduceBEq, Int.reduceToNat, Int.reduceLT, Int.reduceLE, Int.reduceEq, Nat.reduceLeDiff, Nat.reduceLT, Nat.reduceMul, Nat.reduceAdd, String.reduceEq]
  refine hQ .normal _ ?_; clear hQ Q
  refine TS.seq (TS.of [] fun Q hQ => ?_)
  simp only [go_sem, Nat.reduceEqDiff, Nat.reduceBEq, Int.reduceToNat, Int.reduceLT, Int.reduceLE, Int.reduceEq, Nat.reduceLeDiff, Nat.reduceLT, Nat.reduceMul, Nat.reduceAdd, String.reduceEq]
  rintro y m' ⟨hm', b, rfl, hne⟩
  have hm2 : m = m' := hm'.symm
  subst hm2
  cases b with
  | true =>
    have hl0 : l = [] := Classical.byContradiction fun h => by have := hne (by simpa using h); cases this
    subst hl0
    simp only [go_sem, Nat.reduceEqDiff, Nat.reduceBEq, Int.reduceToNat, Int.reduceLT, Int.reduceLE, Int.reduceEq, Nat.reduceLeDiff, Nat.reduceLT, Nat.reduceMul, Nat.reduceAdd, String.reduceEq]
    refine hQ .ret _ ?_; clear hQ Q; refine post_ret _ _ (slS []) ?_ ?_ (DropW.refl m) ⟨rfl, rfl⟩
    · simp only [go_sem, Nat.reduceEqDiff, Nat.reduceBEq, Int.reduceToNat, Int.reduceLT, Int.reduceLE, Int.reduceEq, Nat.reduceLeDiff, Nat.reduceLT, Nat.reduceMul, Nat.reduceAdd, String.reduceEq] <;> rfl
    · simp [IV.np, SK.np, npL]
  | false =>
    simp only [go_sem, Nat.reduceEqDiff, Nat.reduceBEq, Int.reduceToNat, Int.reduceLT, Int.reduceLE, Int.reduceEq, Nat.reduceLeDiff, Nat.reduceLT, Nat.reduceMul, Nat.reduceAdd, String.reduceEq]
    refine hQ .normal _ ?_; clear hQ Q
    have hb : l.length * 16 ≤ 140737488355328 := by omega
    by_cases hl0 : l = []
    · subst hl0
      refine TS.of [] fun Q hQ => ?_
      simp only [go_sem, Nat.reduceEqDiff, Nat.reduceBEq, Int.reduceToNat, Int.reduceLT, Int.reduceLE, Int.reduceEq, Nat.reduceLeDiff, Nat.reduceLT, Nat.reduceMul, Nat.reduceAdd, String.reduceEq, app_0, List.map_nil]
      refine hQ .ret _ ?_; clear hQ Q; refine post_ret _ _ (slS []) ?_ ?_ (DropW.refl m) ⟨rfl, rfl⟩
      · simp only [go_sem, Nat.reduceEqDiff, Nat.reduceBEq, Int.reduceToNat, Int.reduceLT, Int.reduceLE, Int.reduceEq, Nat.reduceLeDiff, Nat.reduceLT, Nat.reduceMul, Nat.reduceAdd, String.reduceEq] <;> rfl
      · simp [IV.np, SK.np, npL]
    · have happ : app m.rows 9 0 l.length .full = some (.row m.rows.length 9, m.rows ++ [0 + l.length]) := by unfold app; rw [if_neg (by simpa using hl0)]
      refine TS.of [] fun Q hQ => ?_
      simp only [go_sem, Nat.reduceEqDiff, Nat.reduceBEq, Int.reduceToNat, Int.reduceLT, Int.reduceLE, Int.reduceEq, Nat.reduceLeDiff, Nat.reduceLT, Nat.reduceMul, Nat.reduceAdd, String.reduceEq, happ, List.length_map, strs_one, strs_sh, hb, Nat.zero_add, List.nil_append]
      refine hQ .ret _ ?_; clear hQ Q; refine post_ret _ _ (slS l) ?_ ?_ (DropW.rows_ [l.length] rfl rfl) ⟨rfl, rfl⟩
      · simp only [go_sem, Nat.reduceEqDiff, Nat.reduceBEq, Int.reduceToNat, Int.reduceLT, Int.reduceLE, Int.reduceEq, Nat.reduceLeDiff, Nat.reduceLT, Nat.reduceMul, Nat.reduceAdd, String.reduceEq] <;> rfl
      · simp [IV.np, SK.np, npS]
set_option maxRecDepth 100000 in
set_option maxHeartbeats 4000000 in
theorem turn_sim (m : Mem) (d : Def) (hd : DefOK d) : Sim 27 [.agg (encD d)] m (fun r m' => r = turnI d ∧ m' = m) := by
  have hck := fun m => check_sim m d hd
  have hcl := fun m => cloneS_sim m d.params (by have := hd.params; omega)
  have hbl := fun m => xblock_sim d.body (by have := hd.size; omega) m
  have hgo : turnI d = if (check d).2 = none ∧ (check d).1.turns = true then .tup [.agg (encD (turnD d)), .v .nilIface] else .tup [.agg (encD ⟨ByteArray.empty, [], [], [], []⟩), .iface 76 (ii 13)] := rfl
  generalize check d = X at hck hgo
  obtain ⟨⟨i1, i2, i3, i4⟩, q⟩ := X
  refine Sim.ofS 29 [.cell 2 27, .tmp 3] Try.func27 rfl rfl rfl (by simp) fun wr => ?_
  simp only [go_sem, Nat.reduceEqDiff, Nat.reduceBEq, Int.reduceToNat, Int.reduceLT, Int.reduceLE, Int.reduceEq, Nat.reduceLeDiff, Nat.reduceLT, Nat.reduceMul, Nat.reduceAdd, String.reduceEq]
  refine TS.seq (TS.of [1] fun Q hQ => ?_)
  simp only [go_sem, Nat.reduceEqDiff, Nat.reduceBEq, Int.reduceToNat, Int.reduceLT, Int.reduceLE, Int.reduceEq, Nat.reduceLeDiff, Nat.reduceLT, Nat.reduceMul, Nat.reduceAdd, String.reduceEq]
  refine hQ .normal _ ?_; clear hQ Q
  refine TS.seq (TS.of [] fun Q hQ => ?_)
  simp only [go_sem, Nat.reduceEqDiff, Nat.reduceBEq, Int.reduceToNat, Int.reduceLT, Int.reduceLE, Int.reduceEq, Nat.reduceLeDiff, Nat.reduceLT, Nat.reduceMul, Nat.reduceAdd, String.reduceEq, encD]
  refine cal_eq (hck _) ?_
  simp only [go_sem, Nat.reduceEqDiff, Nat.reduceBEq, Int.reduceToNat, Int.reduceLT, Int.reduceLE, Int.reduceEq, Nat.reduceLeDiff, Nat.reduceLT, Nat.reduceMul, Nat.reduceAdd, String.reduceEq]
  refine hQ .normal _ ?_; clear hQ Q
  refine TS_cases q (fun hq => ?_) (fun p hq => ?_)
  all_goals subst hq
  · cases i4 with
    | true =>
      refine TS.seq (TS.of [] fun Q hQ => ?_)
      simp only [go_sem, Nat.reduceEqDiff, Nat.reduceBEq, Int.reduceToNat, Int.reduceLT, Int.reduceLE, Int.reduceEq, Nat.reduceLeDiff, Nat.reduceLT, Nat.reduceMul, Nat.reduceAdd, String.reduceEq, errI_none]
      refine hQ .normal _ ?_; clear hQ Q
      refine TS.of [] fun Q hQ => ?_
      simp only [go_sem, Nat.reduceEqDiff, Nat.reduceBEq, Int.reduceToNat, Int.reduceLT, Int.reduceLE, Int.reduceEq, Nat.reduceLeDiff, Nat.reduceLT, Nat.reduceMul, Nat.reduceAdd, String.reduceEq]
      refine drn_of ⟨[21, 23, 26], [], []⟩ [0, 1, 0, 4, 12, 0, 32, 124, 255, 511, 1023] (by kernel_rfl) ?_
      simp only [go_sem, Nat.reduceEqDiff, Nat.reduceBEq, Int.reduceToNat, Int.reduceLT, Int.reduceLE, Int.reduceEq, Nat.reduceLeDiff, Nat.reduceLT, Nat.reduceMul, Nat.reduceAdd, String.reduceEq, encD]
      refine cald_eq (hcl _) ?_
      simp only [go_sem, Nat.reduceEqDiff, Nat.reduceBEq, Int.reduceToNat, Int.reduceLT, Int.reduceLE, Int.reduceEq, Nat.reduceLeDiff, Nat.reduceLT, Nat.reduceMul, Nat.reduceAdd, String.reduceEq]
      refine cald_eq (hbl _) ?_
      simp only [go_sem, Nat.reduceEqDiff, Nat.reduceBEq, Int.reduceToNat, Int.reduceLT, Int.reduceLE, Int.reduceEq, Nat.reduceLeDiff, Nat.reduceLT, Nat.reduceMul, Nat.reduceAdd, String.reduceEq]
      refine hQ .ret _ ?_; clear hQ Q; refine post_ret _ _ (.tup [.agg (encD (turnD d)), .v .nilIface]) ?_ ?_ (DropW.tail0 _ rfl) ⟨by rw [hgo]; rfl, rfl⟩
      · simp only [go_sem, Nat.reduceEqDiff, Nat.reduceBEq, Int.reduceToNat, Int.reduceLT, Int.reduceLE, Int.reduceEq, Nat.reduceLeDiff, Nat.reduceLT, Nat.reduceMul, Nat.reduceAdd, String.reduceEq] <;> rfl
      · simp [IV.np, npL, SK.np, npS, npTs, npEs]
    | false =>
      refine TS.of [] fun Q hQ => ?_
      simp only [go_sem, Nat.reduceEqDiff, Nat.reduceBEq, Int.reduceToNat, Int.reduceLT, Int.reduceLE, Int.reduceEq, Nat.reduceLeDiff, Nat.reduceLT, Nat.reduceMul, Nat.reduceAdd, String.reduceEq, errI_none]
      refine hQ .ret _ ?_; clear hQ Q; refine post_ret _ _ (.tup [.agg (encD ⟨ByteArray.empty, [], [], [], []⟩), .iface 76 (ii 13)]) ?_ ?_ (DropW.tail0 _ rfl) ⟨by rw [hgo]; rfl, rfl⟩
      · simp only [go_sem, Nat.reduceEqDiff, Nat.reduceBEq, Int.reduceToNat, Int.reduceLT, Int.reduceLE, Int.reduceEq, Nat.reduceLeDiff, Nat.reduceLT, Nat.reduceMul, Nat.reduceAdd, String.reduceEq] <;> rfl
      · simp [IV.np, npL, SK.np, npEs, npTs, npS]
  · refine TS.of [] fun Q hQ => ?_
    simp only [go_sem, Nat.reduceEqDiff, Nat.reduceBEq, Int.reduceToNat, Int.reduceLT, Int.reduceLE, Int.reduceEq, Nat.reduceLeDiff, Nat.reduceLT, Nat.reduceMul, Nat.reduceAdd, String.reduceEq, errI_some]
    refine hQ .ret _ ?_; clear hQ Q; refine post_ret _ _ (.tup [.agg (encD ⟨ByteArray.empty, [], [], [], []⟩), .iface 76 (ii 13)]) ?_ ?_ (DropW.tail0 _ rfl) ⟨by rw [hgo]; rfl, rfl⟩
    · simp only [go_sem, Nat.reduceEqDiff, Nat.reduceBEq, Int.reduceToNat, Int.reduceLT, Int.reduceLE, Int.reduceEq, Nat.reduceLeDiff, Nat.reduceLT, Nat.reduceMul, Nat.reduceAdd, String.reduceEq] <;> rfl
    · simp [IV.np, npL, SK.np, npEs, npTs, npS]
set_option maxRecDepth 100000 in
set_option maxHeartbeats 4000000 in
theorem parsed_sim (m : Mem) (s : Bytes) : Sim 26 [ss s] m (fun r m' => r = .tup [.agg (encD (parse s).1), bb (decide ((parse s).2.1 = 0))] ∧ m' = m) := by
  have hp := fun m => parse_any m s
  generalize parse s = X at hp
  obtain ⟨d, c, p⟩ := X
  refine Sim.ofS 16 [.cell 2 27, .tmp 3] Try.func26 rfl rfl rfl (by simp) fun wr => ?_
  simp only [go_sem, Nat.reduceEqDiff, Nat.reduceBEq, Int.reduceToNat, Int.reduceLT, Int.reduceLE, Int.reduceEq, Nat.reduceLeDiff, Nat.reduceLT, Nat.reduceMul, Nat.reduceAdd, String.reduceEq]
  refine TS.of [] fun Q hQ => ?_
  simp only [go_sem, Nat.reduceEqDiff, Nat.reduceBEq, Int.reduceToNat, Int.reduceLT, Int.reduceLE, Int.reduceEq, Nat.reduceLeDiff, Nat.reduceLT, Nat.reduceMul, Nat.reduceAdd, String.reduceEq]
  refine cal_eq (hp _) ?_
  simp only [go_sem, Nat.reduceEqDiff, Nat.reduceBEq, Int.reduceToNat, Int.reduceLT, Int.reduceLE, Int.reduceEq, Nat.reduceLeDiff, Nat.reduceLT, Nat.reduceMul, Nat.reduceAdd, String.reduceEq, encD]
  refine hQ .ret _ ?_; clear hQ Q; refine post_ret _ _ (.tup [.agg (encD d), bb (decide (c = 0))]) ?_ ?_ (DropW.tail0 _ rfl) ⟨rfl, rfl⟩
  · simp only [go_sem, Nat.reduceEqDiff, Nat.reduceBEq, Int.reduceToNat, Int.reduceLT, Int.reduceLE, Int.reduceEq, Nat.reduceLeDiff, Nat.reduceLT, Nat.reduceMul, Nat.reduceAdd, String.reduceEq] <;> rfl
  · simp [IV.np, npL, SK.np, npEs, npTs, npS]
set_option maxRecDepth 100000 in
set_option maxHeartbeats 4000000 in
theorem num_sim (m : Mem) (e : Int) : Sim 31 [errE e] m (fun r m' => r = ii e ∧ m' = m) := by
  refine Sim.ofS 19 [.tmp 2] Try.func31 rfl rfl rfl (by simp) fun wr => ?_
  simp only [go_sem, Nat.reduceEqDiff, Nat.reduceBEq, Int.reduceToNat, Int.reduceLT, Int.reduceLE, Int.reduceEq, Nat.reduceLeDiff, Nat.reduceLT, Nat.reduceMul, Nat.reduceAdd, String.reduceEq]
  by_cases h : e = 0
  · subst h
    refine TS.of [] fun Q hQ => ?_
    simp only [go_sem, Nat.reduceEqDiff, Nat.reduceBEq, Int.reduceToNat, Int.reduceLT, Int.reduceLE, Int.reduceEq, Nat.reduceLeDiff, Nat.reduceLT, Nat.reduceMul, Nat.reduceAdd, String.reduceEq, errE_0]
    refine hQ .ret _ ?_; exact post_ret _ _ _ rfl rfl (DropW.refl _) ⟨rfl, rfl⟩
  · have he : errE e = .iface 76 (ii e) := by unfold errE; rw [if_neg h]
    refine TS.of [] fun Q hQ => ?_
    simp only [go_sem, Nat.reduceEqDiff, Nat.reduceBEq, Int.reduceToNat, Int.reduceLT, Int.reduceLE, Int.reduceEq, Nat.reduceLeDiff, Nat.reduceLT, Nat.reduceMul, Nat.reduceAdd, String.reduceEq, he, h]
    refine hQ .ret _ ?_; exact post_ret _ _ _ rfl rfl (DropW.refl _) ⟨rfl, rfl⟩
end Go.Proofs.Ytphjldhdnmoolaa.A
/- The walks of some functions over the abstract machine. -/
namespace Go.Proofs.Ytphjldhdnmoolaa.A
open Go
/-! law10: its fixed fact -/
def u1 : Bytes := ⟨#[111, 112, 32, 102, 40, 105, 41, 32, 123, 32, 108, 101, 116, 32, 97, 32, 61, 32, 105, 32, 42, 32, 50, 59, 32, 91, 97, 93, 32, 43, 61, 32, 49, 59, 32, 102, 111, 114, 32, 107, 32, 105, 110, 32, 48, 46, 46, 51, 32, 123, 32, 91, 107, 93, 32, 60, 62, 32, 91, 97, 93, 59, 32, 125, 32, 125]⟩
def u2 : Bytes := ⟨#[111, 112, 32, 112, 40, 105, 41, 32, 123, 32, 91, 105, 93, 32, 61, 32, 49, 59, 32, 125]⟩
set_option maxRecDepth 100000
theorem u1_code : (parse u1).2.1 = 0 := by rw [parse_Q]; kernel_rfl
theorem u2_code : (parse u2).2.1 = 0 := by rw [parse_Q]; kernel_rfl
theorem u1_chk : (check (parse u1).1).2 = none ∧ (check (parse u1).1).1.turns = true := by rw [parse_Q]; exact ⟨by kernel_rfl, by kernel_rfl⟩
theorem u2_chk : (check (parse u2).1).1.turns = false := by rw [parse_Q]; kernel_rfl
theorem u1_turn : ∃ a b c, turnB (parse u1).1.body = [a, b, c] ∧ a.k = 1 ∧ b.k = 8 ∧ c.k = 4 := by
  rw [parse_Q]
  refine ⟨(turnB (parseQ u1).1.body).getD 0 S0, (turnB (parseQ u1).1.body).getD 1 S0, (turnB (parseQ u1).1.body).getD 2 S0, by kernel_rfl, by kernel_rfl, by kernel_rfl, by kernel_rfl⟩
theorem errE_2 : errE 2 = .iface 76 (ii 2) := rfl
theorem turnI_yes {d : Def} (h : (check d).2 = none ∧ (check d).1.turns = true) : turnI d = .tup [.agg (encD (turnD d)), .v .nilIface] := by unfold turnI; rw [if_pos h]
theorem turnI_no {d : Def} (h : ¬ ((check d).2 = none ∧ (check d).1.turns = true)) : turnI d = .tup [.agg (encD ⟨ByteArray.empty, [], [], [], []⟩), .iface 76 (ii 13)] := by unfold turnI; rw [if_neg h]
theorem encD_turn (d : Def) : encD (turnD d) = [ss d.name, slS d.params, slE [], slT (turnB d.body), slE []] := rfl
set_option maxRecDepth 100000 in
set_option maxHeartbeats 4000000 in
theorem alive10_sim (m : Mem) : Sim 25 [] m (fun r m' => r = bb true ∧ m' = m) := by
  have h1 := fun m => parsed_sim m u1
  have h2 := fun m => parsed_sim m u2
  have t1 := fun m => turn_sim m (parse u1).1 (parse_ok u1_code)
  have t2 := fun m => turn_sim m (parse u2).1 (parse_ok u2_code)
  rw [turnI_yes u1_chk] at t1
  rw [turnI_no (fun h => by rw [u2_chk] at h; exact absurd h.2 (by simp))] at t2
  obtain ⟨a, b, c, hb, ka, kb, kc⟩ := u1_turn
  rw [encD_turn, hb] at t1
  rw [u1_code] at h1
  rw [u2_code] at h2
  clear hb
  generalize (parse u1).1 = D1 at *
  generalize (parse u2).1 = D2 at *
  refine Sim.ofS 70 [.tmp 0] Try.func25 rfl rfl rfl (by simp) fun wr => ?_
  simp only [go_sem, Nat.reduceEqDiff, Nat.reduceBEq, Int.reduceToNat, Int.reduceLT, Int.reduceLE, Int.reduceEq, Nat.reduceLeDiff, Nat.reduceLT, Nat.reduceMul, Nat.reduceAdd, String.reduceEq]
  refine TS.seq (TS.of [] fun Q hQ => ?_)
  simp only [go_sem, Nat.reduceEqDiff, Nat.reduceBEq, Int.reduceToNat, Int.reduceLT, Int.reduceLE, Int.reduceEq, Nat.reduceLeDiff, Nat.reduceLT, Nat.reduceMul, Nat.reduceAdd, String.reduceEq]
  refine hQ .normal _ ?_; clear hQ Q
  refine TS.seq (TS.of [] fun Q hQ => ?_)
  simp only [go_sem, Nat.reduceEqDiff, Nat.reduceBEq, Int.reduceToNat, Int.reduceLT, Int.reduceLE, Int.reduceEq, Nat.reduceLeDiff, Nat.reduceLT, Nat.reduceMul, Nat.reduceAdd, String.reduceEq]
  refine cal_eq (h1 _) ?_
  simp only [go_sem, Nat.reduceEqDiff, Nat.reduceBEq, Int.reduceToNat, Int.reduceLT, Int.reduceLE, Int.reduceEq, Nat.reduceLeDiff, Nat.reduceLT, Nat.reduceMul, Nat.reduceAdd, String.reduceEq, encD]
  refine hQ .normal _ ?_; clear hQ Q
  refine TS.seq (TS.of [] fun Q hQ => ?_)
  simp only [go_sem, Nat.reduceEqDiff, Nat.reduceBEq, Int.reduceToNat, Int.reduceLT, Int.reduceLE, Int.reduceEq, Nat.reduceLeDiff, Nat.reduceLT, Nat.reduceMul, Nat.reduceAdd, String.reduceEq]
  refine cal_eq (h2 _) ?_
  simp only [go_sem, Nat.reduceEqDiff, Nat.reduceBEq, Int.reduceToNat, Int.reduceLT, Int.reduceLE, Int.reduceEq, Nat.reduceLeDiff, Nat.reduceLT, Nat.reduceMul, Nat.reduceAdd, String.reduceEq, encD]
  refine hQ .normal _ ?_; clear hQ Q
  refine TS.seq (TS.of [] fun Q hQ => ?_)
  simp only [go_sem, Nat.reduceEqDiff, Nat.reduceBEq, Int.reduceToNat, Int.reduceLT, Int.reduceLE, Int.reduceEq, Nat.reduceLeDiff, Nat.reduceLT, Nat.reduceMul, Nat.reduceAdd, String.reduceEq, encD]
  refine cal_eq (t1 _) ?_
  simp only [go_sem, Nat.reduceEqDiff, Nat.reduceBEq, Int.reduceToNat, Int.reduceLT, Int.reduceLE, Int.reduceEq, Nat.reduceLeDiff, Nat.reduceLT, Nat.reduceMul, Nat.reduceAdd, String.reduceEq, encD]
  refine hQ .normal _ ?_; clear hQ Q
  refine TS.seq (TS.of [] fun Q hQ => ?_)
  simp only [go_sem, Nat.reduceEqDiff, Nat.reduceBEq, Int.reduceToNat, Int.reduceLT, Int.reduceLE, Int.reduceEq, Nat.reduceLeDiff, Nat.reduceLT, Nat.reduceMul, Nat.reduceAdd, String.reduceEq, encD]
  refine cal_eq (t2 _) ?_
  simp only [go_sem, Nat.reduceEqDiff, Nat.reduceBEq, Int.reduceToNat, Int.reduceLT, Int.reduceLE, Int.reduceEq, Nat.reduceLeDiff, Nat.reduceLT, Nat.reduceMul, Nat.reduceAdd, String.reduceEq, encD]
  refine hQ .normal _ ?_; clear hQ Q
  refine TS.of [] fun Q hQ => ?_
  simp only [go_sem, Nat.reduceEqDiff, Nat.reduceBEq, Int.reduceToNat, Int.reduceLT, Int.reduceLE, Int.reduceEq, Nat.reduceLeDiff, Nat.reduceLT, Nat.reduceMul, Nat.reduceAdd, String.reduceEq, encTs, encT_eq, ka, kb, kc]
  refine hQ .ret _ ?_; clear hQ Q; refine post_ret _ _ (bb true) ?_ rfl (DropW.tail0 _ rfl) ⟨rfl, rfl⟩
  simp only [go_sem, Nat.reduceEqDiff, Nat.reduceBEq, Int.reduceToNat, Int.reduceLT, Int.reduceLE, Int.reduceEq, Nat.reduceLeDiff, Nat.reduceLT, Nat.reduceMul, Nat.reduceAdd, String.reduceEq]
end Go.Proofs.Ytphjldhdnmoolaa.A
/- The walks of some functions over the abstract machine. -/
namespace Go.Proofs.Ytphjldhdnmoolaa.A
open Go
/-! which operations can be turned -/
def canT (d : Def) : Prop := (rcheck d).2.1 = 0 ∧ hasTs 2 2 d.body = false ∧ readsTs d.body = false
theorem can_iff {d : Def} (hf : FitD d) (ho : DefOK d) : ((check d).2 = none ∧ (check d).1.turns = true) ↔ canT d := by
  have hn := check_none hf ho
  have hs := check_same hf ho
  constructor
  · rintro ⟨h1, h2⟩
    have h3 := hn.2 h1
    have h4 := (rcheck_fine hf ho h3).1
    rw [hs.1, h4] at h2
    have h5 : (!hasTs 2 2 d.body && !readsTs d.body) = true := h2
    simp only [Bool.and_eq_true, Bool.not_eq_true'] at h5
    exact ⟨h3, h5.1, h5.2⟩
  · rintro ⟨h1, h2, h3⟩
    refine ⟨hn.1 h1, ?_⟩
    rw [hs.1, (rcheck_fine hf ho h1).1, h2, h3]; rfl
theorem turnI_can {d : Def} (hf : FitD d) (ho : DefOK d) (h : canT d) : turnI d = .tup [.agg (encD (turnD d)), .v .nilIface] := turnI_yes ((can_iff hf ho).2 h)
theorem turnI_not {d : Def} (hf : FitD d) (ho : DefOK d) (h : ¬ canT d) : turnI d = .tup [.agg (encD ⟨ByteArray.empty, [], [], [], []⟩), .iface 76 (ii 13)] := turnI_no fun x => h ((can_iff hf ho).1 x)
set_option maxRecDepth 100000 in
set_option maxHeartbeats 4000000 in
theorem ikinds_law (m : Mem) (s : Bytes) : Sim 14 [ss s] m (fun r m' => r = bb true ∧ m' = m) := by
  have hp := fun m => parsed_sim m s
  refine Sim.ofS 57 [.tmp 2] Try.func14 rfl rfl rfl (by simp) fun wr => ?_
  simp only [go_sem, Nat.reduceEqDiff, Nat.reduceBEq, Int.reduceToNat, Int.reduceLT, Int.reduceLE, Int.reduceEq, Nat.reduceLeDiff, Nat.reduceLT, Nat.reduceMul, Nat.reduceAdd, String.reduceEq]
  refine TS.seq (TS.of [] fun Q hQ => ?_)
  simp only [go_sem, Nat.reduceEqDiff, Nat.reduceBEq, Int.reduceToNat, Int.reduceLT, Int.reduceLE, Int.reduceEq, Nat.reduceLeDiff, Nat.reduceLT, Nat.reduceMul, Nat.reduceAdd, String.reduceEq]
  refine hQ .normal _ ?_; clear hQ Q
  refine TS.seq (TS.of [] fun Q hQ => ?_)
  simp only [go_sem, Nat.reduceEqDiff, Nat.reduceBEq, Int.reduceToNat, Int.reduceLT, Int.reduceLE, Int.reduceEq, Nat.reduceLeDiff, Nat.reduceLT, Nat.reduceMul, Nat.reduceAdd, String.reduceEq]
  refine cal_eq (alive10_sim _) ?_
  simp only [go_sem, Nat.reduceEqDiff, Nat.reduceBEq, Int.reduceToNat, Int.reduceLT, Int.reduceLE, Int.reduceEq, Nat.reduceLeDiff, Nat.reduceLT, Nat.reduceMul, Nat.reduceAdd, String.reduceEq]
  refine hQ .normal _ ?_; clear hQ Q
  refine TS.seq (TS.of [] fun Q hQ => ?_)
  simp only [go_sem, Nat.reduceEqDiff, Nat.reduceBEq, Int.reduceToNat, Int.reduceLT, Int.reduceLE, Int.reduceEq, Nat.reduceLeDiff, Nat.reduceLT, Nat.reduceMul, Nat.reduceAdd, String.reduceEq]
  refine cal_eq (hp _) ?_
  simp only [go_sem, Nat.reduceEqDiff, Nat.reduceBEq, Int.reduceToNat, Int.reduceLT, Int.reduceLE, Int.reduceEq, Nat.reduceLeDiff, Nat.reduceLT, Nat.reduceMul, Nat.reduceAdd, String.reduceEq, encD]
  refine hQ .normal _ ?_; clear hQ Q
  by_cases b1 : (parse s).2.1 = 0
  rotate_left
  · refine TS.of [] fun Q hQ => ?_
    simp only [go_sem, Nat.reduceEqDiff, Nat.reduceBEq, Int.reduceToNat, Int.reduceLT, Int.reduceLE, Int.reduceEq, Nat.reduceLeDiff, Nat.reduceLT, Nat.reduceMul, Nat.reduceAdd, String.reduceEq, eq_false b1]
    refine hQ .ret _ ?_; clear hQ Q; refine post_ret _ _ (bb true) ?_ ?_ (DropW.tail0 _ rfl) ⟨rfl, rfl⟩
    · simp only [go_sem, Nat.reduceEqDiff, Nat.reduceBEq, Int.reduceToNat, Int.reduceLT, Int.reduceLE, Int.reduceEq, Nat.reduceLeDiff, Nat.reduceLT, Nat.reduceMul, Nat.reduceAdd, String.reduceEq]
    · rfl
  have hf := parse_fit b1
  have ho := parse_ok b1
  have hc := fun m => rcheck_sim m (parse s).1 ho (fits_arg _ hf.body)
  have ht := fun m => turn_sim m (parse s).1 ho
  have hsize := ho.size
  have c22 := fun m => hasS_sim 2 2 (szt (parse s).1.body) (by omega) (parse s).1.body (Nat.le_refl _) m
  have crd := fun m => reads_sim (szt (parse s).1.body) (by omega) (parse s).1.body (Nat.le_refl _) m
  have hcan : canT (parse s).1 ↔ (rcheck (parse s).1).2.1 = 0 ∧ hasTs 2 2 (parse s).1.body = false ∧ readsTs (parse s).1.body = false := Iff.rfl
  have y1 := turnI_can hf ho
  have y2 := turnI_not hf ho
  clear hp
  generalize parse s = P0 at *
  obtain ⟨d, c0, p0⟩ := P0
  dsimp only at b1 hf ho hc ht hsize c22 crd hcan y1 y2
  subst b1
  clear hf ho hsize
  generalize hasTs 2 2 d.body = q22 at *
  generalize readsTs d.body = qr at *
  generalize rcheck d = X at *
  obtain ⟨⟨x1, x2, x3, x4⟩, c, a⟩ := X
  dsimp only at hc hcan
  refine TS.seq (TS.of [] fun Q hQ => ?_)
  simp only [go_sem, Nat.reduceEqDiff, Nat.reduceBEq, Int.reduceToNat, Int.reduceLT, Int.reduceLE, Int.reduceEq, Nat.reduceLeDiff, Nat.reduceLT, Nat.reduceMul, Nat.reduceAdd, String.reduceEq, eq_self, decide_true]
  refine hQ .normal _ ?_; clear hQ Q
  refine TS.seq (TS.of [] fun Q hQ => ?_)
  simp only [go_sem, Nat.reduceEqDiff, Nat.reduceBEq, Int.reduceToNat, Int.reduceLT, Int.reduceLE, Int.reduceEq, Nat.reduceLeDiff, Nat.reduceLT, Nat.reduceMul, Nat.reduceAdd, String.reduceEq, encD]
  refine cal_eq (hc _) ?_
  simp only [go_sem, Nat.reduceEqDiff, Nat.reduceBEq, Int.reduceToNat, Int.reduceLT, Int.reduceLE, Int.reduceEq, Nat.reduceLeDiff, Nat.reduceLT, Nat.reduceMul, Nat.reduceAdd, String.reduceEq]
  refine hQ .normal _ ?_; clear hQ Q
  by_cases hcn : canT d
  · obtain ⟨rfl, rfl, rfl⟩ := hcan.1 hcn
    rw [y1 hcn] at ht
    refine TS.seq (TS.of [] fun Q hQ => ?_)
    simp only [go_sem, Nat.reduceEqDiff, Nat.reduceBEq, Int.reduceToNat, Int.reduceLT, Int.reduceLE, Int.reduceEq, Nat.reduceLeDiff, Nat.reduceLT, Nat.reduceMul, Nat.reduceAdd, String.reduceEq, encD]
    refine cal_eq (ht _) ?_
    simp only [go_sem, Nat.reduceEqDiff, Nat.reduceBEq, Int.reduceToNat, Int.reduceLT, Int.reduceLE, Int.reduceEq, Nat.reduceLeDiff, Nat.reduceLT, Nat.reduceMul, Nat.reduceAdd, String.reduceEq, encD]
    refine hQ .normal _ ?_; clear hQ Q
    refine TS.seq (TS.of [] fun Q hQ => ?_)
    simp only [go_sem, Nat.reduceEqDiff, Nat.reduceBEq, Int.reduceToNat, Int.reduceLT, Int.reduceLE, Int.reduceEq, Nat.reduceLeDiff, Nat.reduceLT, Nat.reduceMul, Nat.reduceAdd, String.reduceEq, eq_self, decide_true]
    refine cal_eq (c22 _) ?_
    simp only [go_sem, Nat.reduceEqDiff, Nat.reduceBEq, Int.reduceToNat, Int.reduceLT, Int.reduceLE, Int.reduceEq, Nat.reduceLeDiff, Nat.reduceLT, Nat.reduceMul, Nat.reduceAdd, String.reduceEq]
    refine cal_eq (crd _) ?_
    simp only [go_sem, Nat.reduceEqDiff, Nat.reduceBEq, Int.reduceToNat, Int.reduceLT, Int.reduceLE, Int.reduceEq, Nat.reduceLeDiff, Nat.reduceLT, Nat.reduceMul, Nat.reduceAdd, String.reduceEq]
    refine hQ .normal _ ?_; clear hQ Q
    refine TS.of [] fun Q hQ => ?_
    simp only [go_sem, Nat.reduceEqDiff, Nat.reduceBEq, Int.reduceToNat, Int.reduceLT, Int.reduceLE, Int.reduceEq, Nat.reduceLeDiff, Nat.reduceLT, Nat.reduceMul, Nat.reduceAdd, String.reduceEq]
    refine hQ .ret _ ?_; clear hQ Q; refine post_ret _ _ (bb true) ?_ ?_ (DropW.tail0 _ rfl) ⟨rfl, rfl⟩
    · simp only [go_sem, Nat.reduceEqDiff, Nat.reduceBEq, Int.reduceToNat, Int.reduceLT, Int.reduceLE, Int.reduceEq, Nat.reduceLeDiff, Nat.reduceLT, Nat.reduceMul, Nat.reduceAdd, String.reduceEq]
    · rfl
  · rw [y2 hcn] at ht
    refine TS.seq (TS.of [] fun Q hQ => ?_)
    simp only [go_sem, Nat.reduceEqDiff, Nat.reduceBEq, Int.reduceToNat, Int.reduceLT, Int.reduceLE, Int.reduceEq, Nat.reduceLeDiff, Nat.reduceLT, Nat.reduceMul, Nat.reduceAdd, String.reduceEq, encD]
    refine cal_eq (ht _) ?_
    simp only [go_sem, Nat.reduceEqDiff, Nat.reduceBEq, Int.reduceToNat, Int.reduceLT, Int.reduceLE, Int.reduceEq, Nat.reduceLeDiff, Nat.reduceLT, Nat.reduceMul, Nat.reduceAdd, String.reduceEq, encD]
    refine hQ .normal _ ?_; clear hQ Q
    by_cases hc0 : c = 0
    rotate_left
    · refine TS.of [] fun Q hQ => ?_
      simp only [go_sem, Nat.reduceEqDiff, Nat.reduceBEq, Int.reduceToNat, Int.reduceLT, Int.reduceLE, Int.reduceEq, Nat.reduceLeDiff, Nat.reduceLT, Nat.reduceMul, Nat.reduceAdd, String.reduceEq, eq_false hc0]
      refine hQ .ret _ ?_; clear hQ Q; refine post_ret _ _ (bb true) ?_ ?_ (DropW.tail0 _ rfl) ⟨rfl, rfl⟩
      · simp only [go_sem, Nat.reduceEqDiff, Nat.reduceBEq, Int.reduceToNat, Int.reduceLT, Int.reduceLE, Int.reduceEq, Nat.reduceLeDiff, Nat.reduceLT, Nat.reduceMul, Nat.reduceAdd, String.reduceEq]
      · rfl
    cases q22 with
    | true =>
      refine TS.of [] fun Q hQ => ?_
      simp only [go_sem, Nat.reduceEqDiff, Nat.reduceBEq, Int.reduceToNat, Int.reduceLT, Int.reduceLE, Int.reduceEq, Nat.reduceLeDiff, Nat.reduceLT, Nat.reduceMul, Nat.reduceAdd, String.reduceEq, eq_true hc0]
      refine cal_eq (c22 _) ?_
      simp only [go_sem, Nat.reduceEqDiff, Nat.reduceBEq, Int.reduceToNat, Int.reduceLT, Int.reduceLE, Int.reduceEq, Nat.reduceLeDiff, Nat.reduceLT, Nat.reduceMul, Nat.reduceAdd, String.reduceEq]
      refine hQ .ret _ ?_; clear hQ Q; refine post_ret _ _ (bb true) ?_ ?_ (DropW.tail0 _ rfl) ⟨rfl, rfl⟩
      · simp only [go_sem, Nat.reduceEqDiff, Nat.reduceBEq, Int.reduceToNat, Int.reduceLT, Int.reduceLE, Int.reduceEq, Nat.reduceLeDiff, Nat.reduceLT, Nat.reduceMul, Nat.reduceAdd, String.reduceEq]
      · rfl
    | false =>
      cases qr with
      | false => exact absurd (hcan.2 ⟨hc0, rfl, rfl⟩) hcn
      | true =>
        refine TS.of [] fun Q hQ => ?_
        simp only [go_sem, Nat.reduceEqDiff, Nat.reduceBEq, Int.reduceToNat, Int.reduceLT, Int.reduceLE, Int.reduceEq, Nat.reduceLeDiff, Nat.reduceLT, Nat.reduceMul, Nat.reduceAdd, String.reduceEq, eq_true hc0]
        refine cal_eq (c22 _) ?_
        simp only [go_sem, Nat.reduceEqDiff, Nat.reduceBEq, Int.reduceToNat, Int.reduceLT, Int.reduceLE, Int.reduceEq, Nat.reduceLeDiff, Nat.reduceLT, Nat.reduceMul, Nat.reduceAdd, String.reduceEq]
        refine cal_eq (crd _) ?_
        simp only [go_sem, Nat.reduceEqDiff, Nat.reduceBEq, Int.reduceToNat, Int.reduceLT, Int.reduceLE, Int.reduceEq, Nat.reduceLeDiff, Nat.reduceLT, Nat.reduceMul, Nat.reduceAdd, String.reduceEq]
        refine hQ .ret _ ?_; clear hQ Q; refine post_ret _ _ (bb true) ?_ ?_ (DropW.tail0 _ rfl) ⟨rfl, rfl⟩
        · simp only [go_sem, Nat.reduceEqDiff, Nat.reduceBEq, Int.reduceToNat, Int.reduceLT, Int.reduceLE, Int.reduceEq, Nat.reduceLeDiff, Nat.reduceLT, Nat.reduceMul, Nat.reduceAdd, String.reduceEq]
        · rfl
end Go.Proofs.Ytphjldhdnmoolaa.A
