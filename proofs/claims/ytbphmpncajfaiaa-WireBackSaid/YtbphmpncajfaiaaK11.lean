/- WireBack's own call: numbers and rows come back one behind the other. -/
import Derived.Test.YtbphmpncajfaiaaK1
import Derived.Test.YtbphmpncajfaiaaPyx9
import Derived.Test.YtbphmpncajfaiaaM4
import Derived.Test.YtbphmpncajfaiaaM7

namespace Go.Proofs.Ytbphmpncajfaiaa.K
open Go.RowKit Go.Proofs.Ytbphmpncajfaiaa.M Go.Proofs.Ytbphmpncajfaiaa.Py Go.Proofs.YtbphmpncajfaiaaW.PrintWords Go.Proofs.YtbphmpncajfaiaaW.PrintLast Go.Proofs.YtbphmpncajfaiaaW.PrintMore
set_option linter.unusedVariables false
set_option linter.unusedSimpArgs false
set_option maxHeartbeats 8000000 in
set_option maxRecDepth 100000 in
theorem back_many (N Rw Mo : Option Addr) (cn cr cm : Nat) (ln lr lm : List Int) (w : World) (hN : Kd.C (Kd.int .i64) w N ln.length ln) (hR : Kd.C (Kd.int .u8) w Rw lr.length lr) (hM : Kd.C (Kd.int .u8) w Mo lm.length lm) (hcn : ln.length ≤ cn) (hcr : lr.length ≤ cr) (hcm : lm.length ≤ cm)
    (hb : 4096 < ln.length) :
    Calls Try.prog 8 #[.slice N ln.length cn, .slice Rw lr.length cr, .slice Mo lm.length cm] w fun e w' => e = .returned (.bool true) ∧ Below w.heap.size w w' := by
  have CN := Aside0.mk hN
  have CR := Aside0.mk hR
  have CM := Aside0.mk hM
  have LN := Aside0.mk hcn
  have LR := Aside0.mk hcr
  have LM := Aside0.mk hcm
  have HB := Aside0.mk (Below.refl w.heap.size w)
  obtain ⟨y, hy⟩ : ∃ y, y = [lr, lm] := ⟨_, rfl⟩
  have hbig : decide ((4096 : Int) < (ln.length : Int)) = true := decide_eq_true (by omega)
  clear hN hR hM hcn hcr hcm hy hb
  go_enter Try.func8, Try.ntmps8
  go_wp2_with (first | ((with_reducible refine gate_callee (f := 16) rfl ?_); (with_reducible refine gate_dst (N := 12) rfl ?_); (try (refine gate_guard (by rfl) ?_; dsimp only)); refine goesL_ (some 12) rfl rfl Try.func16 (by kernel_rfl) rfl #[] rfl (by (try simp only [List.map_toArray, List.map_cons, List.map_nil]); first | done | rfl) ?_; (refine (alive_calls _).mono ?_); rintro e w_al ⟨rfl, hb_⟩; refine ⟨_, rfl, ?_⟩; have HB0_ := HB; replace CN := Aside0.mk (Kd.C_below CN.out hb_); replace CR := Aside0.mk (Kd.C_below CR.out hb_); replace CM := Aside0.mk (Kd.C_below CM.out hb_); replace HB := Aside0.mk (below_step HB.out hb_); clear hb_; clear HB0_))
  go_ret
  exact ⟨rfl, HB.out⟩
set_option maxHeartbeats 8000000 in
set_option maxRecDepth 100000 in
theorem back_large (N Rw Mo : Option Addr) (cn cr cm : Nat) (ln lr lm : List Int) (w : World) (hN : Kd.C (Kd.int .i64) w N ln.length ln) (hR : Kd.C (Kd.int .u8) w Rw lr.length lr) (hM : Kd.C (Kd.int .u8) w Mo lm.length lm) (hcn : ln.length ≤ cn) (hcr : lr.length ≤ cr) (hcm : lm.length ≤ cm) (K1 : Nat)
    (hb : ln.length ≤ 4096) (h1 : palimpsestlaw02_large.f K1 [lr, lm] = some true) :
    Calls Try.prog 8 #[.slice N ln.length cn, .slice Rw lr.length cr, .slice Mo lm.length cm] w fun e w' => e = .returned (.bool true) ∧ Below w.heap.size w w' := by
  have CN := Aside0.mk hN
  have CR := Aside0.mk hR
  have CM := Aside0.mk hM
  have LN := Aside0.mk hcn
  have LR := Aside0.mk hcr
  have LM := Aside0.mk hcm
  have HB := Aside0.mk (Below.refl w.heap.size w)
  obtain ⟨y, hy⟩ : ∃ y, y = [lr, lm] := ⟨_, rfl⟩
  have hbig : decide ((4096 : Int) < (ln.length : Int)) = false := decide_eq_false (by omega)
  have A1 := Aside0.mk (show palimpsestlaw02_large.f K1 y = some true by rw [hy]; exact h1)
  have Ny := Aside0.mk hy
  clear hN hR hM hcn hcr hcm hy hb h1
  go_enter Try.func8, Try.ntmps8
  go_wp2_with (first | ((with_reducible refine gate_callee (f := 16) rfl ?_); (with_reducible refine gate_dst (N := 12) rfl ?_); (try (refine gate_guard (by rfl) ?_; dsimp only)); refine goesL_ (some 12) rfl rfl Try.func16 (by kernel_rfl) rfl #[] rfl (by (try simp only [List.map_toArray, List.map_cons, List.map_nil]); first | done | rfl) ?_; (refine (alive_calls _).mono ?_); rintro e w_al ⟨rfl, hb_⟩; refine ⟨_, rfl, ?_⟩; have HB0_ := HB; replace CN := Aside0.mk (Kd.C_below CN.out hb_); replace CR := Aside0.mk (Kd.C_below CR.out hb_); replace CM := Aside0.mk (Kd.C_below CM.out hb_); replace HB := Aside0.mk (below_step HB.out hb_); clear hb_; clear HB0_) | ((with_reducible refine gate_dst (N := 20) rfl ?_); (try (refine gate_guard (by rfl) ?_; dsimp only)); refine C_lit (Kd.slice 5 (Kd.int .u8)) 22 ?hg (N := 20) ?hd (xs := [lr, lm]) (inner := [.slice Rw lr.length cr, .slice Mo lm.length cm]) ?hr ?hp (by simp) ?_; (case hd => rfl); (case hg => rfl); (case hr => first | (go_simp; done) | (go_simp; rfl)); (case hp => exact (Reps.one ⟨_, _, rfl, LR.out, CR.out⟩ (Reps.one ⟨_, _, rfl, LM.out, CM.out⟩ (Reps.none _ _)))); intro w_y A_y c_y hc_ l_y hb_; rw [← Ny.out] at hc_ l_y ⊢; replace CN := Aside0.mk (Kd.C_below CN.out hb_); replace CR := Aside0.mk (Kd.C_below CR.out hb_); replace CM := Aside0.mk (Kd.C_below CM.out hb_); replace HB := Aside0.mk (below_step HB.out hb_); have C_y := Aside0.mk hc_; have L_y := Aside0.mk l_y; clear hc_ hb_ l_y) | ((with_reducible refine gate_callee (f := 17) rfl ?_); (with_reducible refine gate_dst (N := 21) rfl ?_); (try (refine gate_guard (by rfl) ?_; dsimp only)); refine goesL_ (some 21) rfl rfl Try.func17 (by kernel_rfl) rfl #[.slice A_y y.length c_y] rfl (by (try simp only [List.map_toArray, List.map_cons, List.map_nil]); first | done | rfl) ?_; (refine (palimpsestlaw02_large.calls K1 _ _ y true _ ?side1 ?side2 A1.out).mono ?_); (case side1 => exact C_y.out); (case side2 => exact L_y.out); rintro e w_lg ⟨rfl, ⟨⟨nd_, rfl⟩⟩⟩; refine ⟨_, rfl, ?_⟩; have HB0_ := HB; replace CN := Aside0.mk (Kd.C_below CN.out (pw_below_drewN (Below.refl _ _) nd_)); replace CR := Aside0.mk (Kd.C_below CR.out (pw_below_drewN (Below.refl _ _) nd_)); replace CM := Aside0.mk (Kd.C_below CM.out (pw_below_drewN (Below.refl _ _) nd_)); replace C_y := Aside0.mk (Kd.C_below C_y.out (pw_below_drewN (Below.refl _ _) nd_)); replace HB := Aside0.mk (below_step HB.out (pw_below_drewN (Below.refl _ _) nd_)); clear HB0_))
  go_ret
  exact ⟨rfl, HB.out⟩
set_option maxHeartbeats 8000000 in
set_option maxRecDepth 100000 in
theorem back_main (N Rw Mo : Option Addr) (cn cr cm : Nat) (ln lr lm : List Int) (w : World) (hN : Kd.C (Kd.int .i64) w N ln.length ln) (hR : Kd.C (Kd.int .u8) w Rw lr.length lr) (hM : Kd.C (Kd.int .u8) w Mo lm.length lm) (hcn : ln.length ≤ cn) (hcr : lr.length ≤ cr) (hcm : lm.length ≤ cm) (K1 K2 K3 K4 K5 K6 : Nat)
    (hb : ln.length ≤ 4096) (h1 : palimpsestlaw02_large.f K1 [lr, lm] = some false) (hll : lr.length + lm.length ≤ 131072) (pt pr rs : List Int) (hpr : pr.length ≤ 1000000) (h2 : wire_Put.f K2 [] ln = some pt) (h3 : wire_PutRow.f K3 pt lr = some pr) (h4 : wire_Takes.f K4 (pr ++ lm) (ln.length : Int) = some (ln, rs, none)) (h5 : palimpsestnum_Ints.f K5 ln ln = some true) (h6 : wire_TakeRow.f K6 rs = some (lr, lm, none)) :
    Calls Try.prog 8 #[.slice N ln.length cn, .slice Rw lr.length cr, .slice Mo lm.length cm] w fun e w' => e = .returned (.bool true) ∧ Below w.heap.size w w' := by
  have CN := Aside0.mk hN
  have CR := Aside0.mk hR
  have CM := Aside0.mk hM
  have LN := Aside0.mk hcn
  have LR := Aside0.mk hcr
  have LM := Aside0.mk hcm
  have HB := Aside0.mk (Below.refl w.heap.size w)
  obtain ⟨y, hy⟩ : ∃ y, y = [lr, lm] := ⟨_, rfl⟩
  have hbig : decide ((4096 : Int) < (ln.length : Int)) = false := decide_eq_false (by omega)
  obtain ⟨bb, hbb⟩ : ∃ bb, bb = pr ++ lm := ⟨_, rfl⟩
  have A1 := Aside0.mk (show palimpsestlaw02_large.f K1 y = some false by rw [hy]; exact h1)
  have A2 := Aside0.mk h2
  have A3 := Aside0.mk h3
  have A4 := Aside0.mk (show wire_Takes.f K4 bb (ln.length : Int) = some (ln, rs, none) by rw [hbb]; exact h4)
  have A5 := Aside0.mk h5
  have A6 := Aside0.mk h6
  have Ny := Aside0.mk hy
  have Nbb := Aside0.mk hbb
  have LL := Aside0.mk hll
  have LPR := Aside0.mk hpr
  clear hN hR hM hcn hcr hcm hy hb h1 h2 h3 h4 h5 h6 hbb hll hpr
  go_enter Try.func8, Try.ntmps8
  go_wp2_with (first | ((with_reducible refine gate_callee (f := 16) rfl ?_); (with_reducible refine gate_dst (N := 12) rfl ?_); (try (refine gate_guard (by rfl) ?_; dsimp only)); refine goesL_ (some 12) rfl rfl Try.func16 (by kernel_rfl) rfl #[] rfl (by (try simp only [List.map_toArray, List.map_cons, List.map_nil]); first | done | rfl) ?_; (refine (alive_calls _).mono ?_); rintro e w_al ⟨rfl, hb_⟩; refine ⟨_, rfl, ?_⟩; have HB0_ := HB; replace CN := Aside0.mk (Kd.C_below CN.out hb_); replace CR := Aside0.mk (Kd.C_below CR.out hb_); replace CM := Aside0.mk (Kd.C_below CM.out hb_); replace HB := Aside0.mk (below_step HB.out hb_); clear hb_; clear HB0_) | ((with_reducible refine gate_dst (N := 20) rfl ?_); (try (refine gate_guard (by rfl) ?_; dsimp only)); refine C_lit (Kd.slice 5 (Kd.int .u8)) 22 ?hg (N := 20) ?hd (xs := [lr, lm]) (inner := [.slice Rw lr.length cr, .slice Mo lm.length cm]) ?hr ?hp (by simp) ?_; (case hd => rfl); (case hg => rfl); (case hr => first | (go_simp; done) | (go_simp; rfl)); (case hp => exact (Reps.one ⟨_, _, rfl, LR.out, CR.out⟩ (Reps.one ⟨_, _, rfl, LM.out, CM.out⟩ (Reps.none _ _)))); intro w_y A_y c_y hc_ l_y hb_; rw [← Ny.out] at hc_ l_y ⊢; replace CN := Aside0.mk (Kd.C_below CN.out hb_); replace CR := Aside0.mk (Kd.C_below CR.out hb_); replace CM := Aside0.mk (Kd.C_below CM.out hb_); replace HB := Aside0.mk (below_step HB.out hb_); have C_y := Aside0.mk hc_; have L_y := Aside0.mk l_y; clear hc_ hb_ l_y) | ((with_reducible refine gate_callee (f := 17) rfl ?_); (with_reducible refine gate_dst (N := 21) rfl ?_); (try (refine gate_guard (by rfl) ?_; dsimp only)); refine goesL_ (some 21) rfl rfl Try.func17 (by kernel_rfl) rfl #[.slice A_y y.length c_y] rfl (by (try simp only [List.map_toArray, List.map_cons, List.map_nil]); first | done | rfl) ?_; (refine (palimpsestlaw02_large.calls K1 _ _ y false _ ?side1 ?side2 A1.out).mono ?_); (case side1 => exact C_y.out); (case side2 => exact L_y.out); rintro e w_lg ⟨rfl, ⟨⟨nd_, rfl⟩⟩⟩; refine ⟨_, rfl, ?_⟩; have HB0_ := HB; replace CN := Aside0.mk (Kd.C_below CN.out (pw_below_drewN (Below.refl _ _) nd_)); replace CR := Aside0.mk (Kd.C_below CR.out (pw_below_drewN (Below.refl _ _) nd_)); replace CM := Aside0.mk (Kd.C_below CM.out (pw_below_drewN (Below.refl _ _) nd_)); replace C_y := Aside0.mk (Kd.C_below C_y.out (pw_below_drewN (Below.refl _ _) nd_)); replace HB := Aside0.mk (below_step HB.out (pw_below_drewN (Below.refl _ _) nd_)); clear HB0_) | ((with_reducible refine gate_callee (f := 19) rfl ?_); (with_reducible refine gate_dst (N := 24) rfl ?_); (try (refine gate_guard (by rfl) ?_; dsimp only)); refine goesL_ (some 24) rfl rfl Try.func19 (by kernel_rfl) rfl #[.slice none 0 0, .slice N ln.length cn] rfl (by (try simp only [List.map_toArray, List.map_cons, List.map_nil]); first | done | rfl) ?_; (refine (wire_Put.calls K2 _ _ ([] : List Int) _ _ ln pt _ ?side1 ?side2 ?side3 ?side4 A2.out).mono ?_); (case side1 => exact Kd.C_nil _ _); (case side2 => exact Nat.le_refl _); (case side3 => exact CN.out); (case side4 => exact LN.out); rintro e w_pt ⟨v_pt, rfl, ho_, hb_⟩; refine ⟨_, rfl, ?_⟩; have HB0_ := HB; replace CN := Aside0.mk (Kd.C_below CN.out hb_); replace CR := Aside0.mk (Kd.C_below CR.out hb_); replace CM := Aside0.mk (Kd.C_below CM.out hb_); replace HB := Aside0.mk (below_step HB.out hb_); have H_pt := Aside0.mk (Kd.R_lower ho_ (below_size HB0_.out)); clear ho_ hb_; obtain ⟨A_pt, c_pt, e_pt⟩ := Kd.R_slice H_pt.out; subst e_pt; clear HB0_) | ((with_reducible refine gate_callee (f := 20) rfl ?_); (with_reducible refine gate_dst (N := 26) rfl ?_); refine goesL_ (some 26) rfl rfl Try.func20 (by kernel_rfl) rfl #[.slice A_pt pt.length c_pt, .slice Rw lr.length cr] rfl (by (try simp only [List.map_toArray, List.map_cons, List.map_nil]); first | done | rfl) ?_; (refine (wire_PutRow.calls K3 _ _ pt _ _ lr pr _ ?side1 ?side2 ?side3 ?side4 A3.out).mono ?_); (case side1 => exact (Kd.R_reads' H_pt.out).2.2); (case side2 => exact (Kd.R_reads' H_pt.out).2.1); (case side3 => exact CR.out); (case side4 => exact LR.out); rintro e w_pr ⟨v_pr, rfl, ho_, hb_⟩; refine ⟨_, rfl, ?_⟩; have HOWN := Aside0.mk ho_; have HOB := Aside0.mk hb_; clear ho_ hb_) | ((with_reducible refine gate_builtin (b := .append) (xs := #[.tmp 26, .tmp 27]) rfl ?_); at_builtin; refine Kd.R_append_rows (Kd.int .u8) (w0 := w_pt) w_pt.heap.size rfl (.tmp 26) (.tmp 27) 22 5 (.int .u8 0) 1 rfl Try.underlying22 info5 rfl (by decide) (by omega) v_pr pr lm _ _ _ (fun _ => True) (fun _ => False) rfl rfl ?aO ?aR (fun _ _ h => h) (fun _ h => h.elim) ?aF ?aB ?aS ?aL ?_; (case aR => exact Kd.C_below CM.out HOB.out); (case aB => exact HOB.out); (case aF => exact (fun _ _ => trivial)); (case aO => exact HOWN.out); (case aS => exact below_size HOB.out); (case aL => have := LL.out; have := LPR.out; omega); intro v_bb w_bb ho_ hb_ hg_ hat_; rw [← Nbb.out] at ho_; replace HOWN := Aside0.mk ho_; replace HOB := Aside0.mk hb_; clear ho_ hb_ hg_ hat_; have HB0_ := HB; replace CN := Aside0.mk (Kd.C_below CN.out HOB.out); replace CR := Aside0.mk (Kd.C_below CR.out HOB.out); replace CM := Aside0.mk (Kd.C_below CM.out HOB.out); replace H_pt := Aside0.mk (Kd.R_below H_pt.out HOB.out); replace HB := Aside0.mk (below_step HB.out HOB.out); have H_bb := Aside0.mk (Kd.R_lower HOWN.out (below_size HB0_.out)); clear HOWN HOB HB0_; obtain ⟨A_bb, c_bb, e_bb⟩ := Kd.R_slice H_bb.out; subst e_bb) | ((with_reducible refine gate_callee (f := 33) rfl ?_); (with_reducible refine gate_dst (N := 33) rfl ?_); (try (refine gate_guard (by rfl) ?_; dsimp only)); refine goesL_ (some 33) rfl rfl Try.func33 (by kernel_rfl) rfl #[.slice A_bb bb.length c_bb, .int .i64 (ln.length : Int)] rfl (by (try simp only [List.map_toArray, List.map_cons, List.map_nil]); first | done | rfl) ?_; (refine (wire_Takes.calls K4 (fun _ => True) _ _ bb (ln.length : Int) ln rs none _ ?side1 A4.out).mono ?_); (case side1 => exact Kd.R_V H_bb.out); rintro e w_ts ⟨v_t1, v_t2, rfl, ho1_, ho2_, hb_⟩; refine ⟨_, rfl, ?_⟩; have HB0_ := HB; replace CN := Aside0.mk (Kd.C_below CN.out hb_); replace CR := Aside0.mk (Kd.C_below CR.out hb_); replace CM := Aside0.mk (Kd.C_below CM.out hb_); replace H_bb := Aside0.mk (Kd.R_below H_bb.out hb_); replace HB := Aside0.mk (below_step HB.out hb_); have H_t1 := Aside0.mk (Kd.R_mono (Kd.R_lower ho1_ (below_size HB0_.out)) (ok' := fun _ => True) (fun _ _ => trivial)); have H_t2 := Aside0.mk (Kd.R_mono (Kd.R_lower ho2_ (below_size HB0_.out)) (ok' := fun _ => True) (fun _ _ => trivial)); clear ho1_ ho2_ hb_; obtain ⟨A_t1, c_t1, e_t1⟩ := Kd.R_slice H_t1.out; subst e_t1; obtain ⟨A_t2, c_t2, e_t2⟩ := Kd.R_slice H_t2.out; subst e_t2; (try simp only [errW_none, errW_some]); clear HB0_) | ((with_reducible refine gate_callee (f := 24) rfl ?_); (with_reducible refine gate_dst (N := 42) rfl ?_); (try (refine gate_guard (by rfl) ?_; dsimp only)); refine goesL_ (some 42) rfl rfl Try.func24 (by kernel_rfl) rfl #[.slice A_t1 ln.length c_t1, .slice N ln.length cn] rfl (by (try simp only [List.map_toArray, List.map_cons, List.map_nil]); first | done | rfl) ?_; (refine (palimpsestnum_Ints.calls K5 _ _ ln _ _ ln true _ ?side1 ?side2 ?side3 ?side4 A5.out).mono ?_); (case side1 => exact (Kd.R_reads' H_t1.out).2.2); (case side2 => exact (Kd.R_reads' H_t1.out).2.1); (case side3 => exact CN.out); (case side4 => exact LN.out); rintro e w_in ⟨rfl, ⟨⟨ni_, rfl⟩⟩⟩; refine ⟨_, rfl, ?_⟩; have HB0_ := HB; replace CN := Aside0.mk (Kd.C_below CN.out (pw_below_drewN (Below.refl _ _) ni_)); replace CR := Aside0.mk (Kd.C_below CR.out (pw_below_drewN (Below.refl _ _) ni_)); replace CM := Aside0.mk (Kd.C_below CM.out (pw_below_drewN (Below.refl _ _) ni_)); replace H_t1 := Aside0.mk (Kd.R_below H_t1.out (pw_below_drewN (Below.refl _ _) ni_)); replace H_t2 := Aside0.mk (Kd.R_below H_t2.out (pw_below_drewN (Below.refl _ _) ni_)); replace HB := Aside0.mk (below_step HB.out (pw_below_drewN (Below.refl _ _) ni_)); clear HB0_) | ((with_reducible refine gate_callee (f := 34) rfl ?_); (with_reducible refine gate_dst (N := 47) rfl ?_); (try (refine gate_guard (by rfl) ?_; dsimp only)); refine goesL_ (some 47) rfl rfl Try.func34 (by kernel_rfl) rfl #[.slice A_t2 rs.length c_t2] rfl (by (try simp only [List.map_toArray, List.map_cons, List.map_nil]); first | done | rfl) ?_; (refine (wire_TakeRow.calls K6 _ _ rs lr lm none _ ?side1 ?side2 A6.out).mono ?_); (case side1 => exact (Kd.R_reads' H_t2.out).2.2); (case side2 => exact (Kd.R_reads' H_t2.out).2.1); rintro e w_tr ⟨v_r1, v_r2, rfl, ho1_, ho2_, hb_⟩; refine ⟨_, rfl, ?_⟩; have HB0_ := HB; replace CN := Aside0.mk (Kd.C_below CN.out hb_); replace CR := Aside0.mk (Kd.C_below CR.out hb_); replace CM := Aside0.mk (Kd.C_below CM.out hb_); replace H_t2 := Aside0.mk (Kd.R_below H_t2.out hb_); replace HB := Aside0.mk (below_step HB.out hb_); obtain ⟨A_r1, c_r1, e_r1⟩ := Kd.R_slice ho1_; subst e_r1; obtain ⟨A_r2, c_r2, e_r2⟩ := Kd.R_slice ho2_; subst e_r2; (try simp only [errW_none, errW_some]); have hcv1 := own_string (P := Try.prog) Try.underlying22 Try.underlying5 Try.underlying9 (Kd.own_of_R ho1_); have hcv2 := own_string (P := Try.prog) Try.underlying22 Try.underlying5 Try.underlying9 (Kd.own_of_R ho2_); have hcv3 := Kd.C_string (P := Try.prog) (A := Rw) (c := cr) Try.underlying22 Try.underlying5 Try.underlying9 CR.out; have hcv4 := Kd.C_string (P := Try.prog) (A := Mo) (c := cm) Try.underlying22 Try.underlying5 Try.underlying9 CM.out; clear ho1_ ho2_ hb_; clear HB0_))
  go_ret
  exact ⟨rfl, HB.out⟩
theorem back_true (N Rw Mo : Option Addr) (cn cr cm : Nat) (ln lr lm : List Int) (w : World) (hN : Kd.C (Kd.int .i64) w N ln.length ln) (hR : Kd.C (Kd.int .u8) w Rw lr.length lr) (hM : Kd.C (Kd.int .u8) w Mo lm.length lm) (hcn : ln.length ≤ cn) (hcr : lr.length ≤ cr) (hcm : lm.length ≤ cm)
    (hI : ∀ x ∈ ln, I64 x) (br : Bytes lr) (bm : Bytes lm) (sr : lr.length ≤ 140737488355328) (sm : lm.length ≤ 140737488355328) :
    Calls Try.prog 8 #[.slice N ln.length cn, .slice Rw lr.length cr, .slice Mo lm.length cm] w fun e w' => e = .returned (.bool true) ∧ Below w.heap.size w w' := by
  by_cases hb : 4096 < ln.length
  · exact back_many N Rw Mo cn cr cm ln lr lm w hN hR hM hcn hcr hcm hb
  · have hb' : ln.length ≤ 4096 := by omega
    obtain ⟨K1, h1⟩ := large_comes (ls := [lr, lm]) (fun l hl => by
      simp only [List.mem_cons, List.not_mem_nil, or_false] at hl
      rcases hl with rfl | rfl
      · exact sr
      · exact sm) (by simp)
    have h1 := h1 K1 (Nat.le_refl _)
    rw [show [lr, lm].flatten = lr ++ lm by simp, List.length_append] at h1
    by_cases hlg : 131072 < lr.length + lm.length
    · rw [decide_eq_true hlg] at h1
      exact back_large N Rw Mo cn cr cm ln lr lm w hN hR hM hcn hcr hcm K1 hb' h1
    · rw [decide_eq_false hlg] at h1
      have hnl := nums_len hI
      obtain ⟨K2, h2⟩ := put_comes (acc := []) hI (by simp; omega) (by omega)
      have h2 := h2 K2 (Nat.le_refl _)
      rw [List.nil_append] at h2
      obtain ⟨K3, h3⟩ := putrow_comes (acc := nums ln) (row := lr) (by omega)
      have h3 := h3 K3 (Nat.le_refl _)
      have hrow : I64 (lr.length : Int) := by unfold I64; omega
      have hle := num_le hrow
      have e : nums ln ++ num (lr.length : Int) ++ lr ++ lm = nums ln ++ (num (lr.length : Int) ++ lr ++ lm) := by simp
      obtain ⟨K4, h4⟩ := takes_comes (l := ln) (r := num (lr.length : Int) ++ lr ++ lm) hI hb' (((num_bytes _).append br).append bm) (by simp; omega)
      have h4 := h4 K4 (Nat.le_refl _)
      rw [← e] at h4
      obtain ⟨K5, h5⟩ := ints_comes (l := ln) (by omega)
      obtain ⟨K6, h6⟩ := takerow_comes (row := lr) (more := lm) (br.append bm) (by omega)
      exact back_main N Rw Mo cn cr cm ln lr lm w hN hR hM hcn hcr hcm K1 K2 K3 K4 K5 K6 hb' h1 (by omega) _ _ _ (by simp; omega) h2 h3 h4 (h5 K5 (Nat.le_refl _)) (h6 K6 (Nat.le_refl _))
end Go.Proofs.Ytbphmpncajfaiaa.K
