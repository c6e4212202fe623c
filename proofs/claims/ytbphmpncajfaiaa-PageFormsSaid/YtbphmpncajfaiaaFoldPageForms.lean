/- For every input PageForms answers true: what sector each page has, and which sectors are a page's. -/
import Derived.Test.YtbphmpncajfaiaaJPageForms3
import Derived.Test.YtbphmpncajfaiaaWSized
import Derived.ProofKit
import Derived.OpenShut
import Derived.ShutString
import Derived.ChangeOld
import Derived.SizedLaws
import Derived.Lib.SmallJoins
import Derived.Test.YtbphmpncajfaiaaRows
import Derived.WalkKit
/- PageForms (function 9). -/
namespace Go.Proofs.Ytbphmpncajfaiaa.K
open Go.RowKit Go.Proofs.Ytbphmpncajfaiaa.M Go.Proofs.Ytbphmpncajfaiaa.Py Go.Proofs.YtbphmpncajfaiaaW.PrintWords Go.Proofs.YtbphmpncajfaiaaW.PrintLast Go.Proofs.YtbphmpncajfaiaaW.PrintMore
set_option linter.unusedVariables false
set_option linter.unusedSimpArgs false
theorem copy_reads {A : Option Addr} {c base : Nat} {l : List Int} {w : World} (h : Kd.R (Kd.int .u8) 5 w base (fun _ => True) (.slice A (l.length + 2) c) (l ++ [165, 90])) : Kd.C (Kd.int .u8) w A l.length l := by
  have h2 : Kd.R (Kd.int .u8) 5 w base (fun _ => True) (.slice A (l ++ [165, 90]).length c) (l ++ [165, 90]) := by rw [List.length_append]; exact h
  have h3 := Kd.R_take h2 (m := l.length) (by simp)
  rw [List.take_left] at h3
  exact (Kd.R_reads' h3).2.2
theorem rdecode_is (A : Option Addr) (c : Nat) (b : List Int) (ws : World) (hC : Kd.C (Kd.int .u8) ws A b.length b) (hc : b.length ≤ c) (hb : Bytes b) (p : List Int) (o : Bool) (hr : rdecodeOf b = (p, o)) :
    Calls Try.prog 38 #[.slice A b.length c] ws fun e w' => e = .returned (.tuple #[.agg (pg p), .bool o]) ∧ Below ws.heap.size ws w' := by
  have := rdecode_calls A c b ws hC hc hb
  rw [hr] at this
  exact this
set_option maxHeartbeats 16000000 in
set_option maxRecDepth 100000 in
theorem forms_few (lsn : Int) (A Ab : Option Addr) (c cb : Nat) (ln lb : List Int) (ws : World) (hA : Kd.C (Kd.int .i64) ws A ln.length ln) (hB : Kd.C (Kd.int .u8) ws Ab lb.length lb) (hca : ln.length ≤ c) (hcb : lb.length ≤ cb)
    (sa : ln.length ≤ 4611686018427387904) (hn : I64 lsn) (hI : ∀ x ∈ ln, I64 x) (hbl : Bytes lb) (hx : ¬ 16384 < lb.length) :
    Calls Try.prog 9 #[.int .i64 lsn, .slice A ln.length c, .slice Ab lb.length cb] ws fun e w' => e = .returned (.bool true) ∧ Below ws.heap.size ws w' := by
  have CC := Aside0.mk hA
  have CBB := Aside0.mk hB
  have LC := Aside0.mk hca
  have LBB := Aside0.mk hcb
  have SC := Aside0.mk sa
  have BLB := Aside0.mk hbl
  have LL := Aside0.mk (show lb.length ≤ 16384 by omega)
  have heq := eql49
  have hneq := neq49
  have HB := Aside0.mk (Below.refl ws.heap.size ws)
  have c1 : decide ((lb.length : Int) > 16384) = false := decide_eq_false (by omega)
  obtain ⟨pf, hpf⟩ : ∃ p, p = full lsn ln := ⟨_, rfl⟩
  obtain ⟨bx, hbx⟩ : ∃ b, b = encodeOf (pf.headD 0) pf.tail := ⟨_, rfl⟩
  obtain ⟨pr, er, hde⟩ : ∃ p e, decodeOf lb = (p, e) := ⟨_, _, rfl⟩
  obtain ⟨pw, okb, hrd⟩ : ∃ p e, rdecodeOf lb = (p, e) := ⟨_, _, rfl⟩
  have NF := Aside0.mk hpf
  have NB := Aside0.mk hbx
  have DD := Aside0.mk hde
  have RD := Aside0.mk hrd
  have LF := Aside0.mk (show pf.length = 61 by rw [hpf]; simp [full])
  have IP := Aside0.mk (show ∀ x ∈ pf, I64 x by rw [hpf]; exact full_i64' hn hI)
  have LPR := Aside0.mk (show pr.length = 61 by have := decode_page lb; rw [hde] at this; exact this)
  have CASE := Aside0.mk (show (er = none ∧ okb = true ∧ pw = pr) ∨ (er = some 4 ∧ okb = false ∧ pr = none61 ∧ pw = none61) by
    have h2 := rdecode_eq hbl
    rw [hrd, hde] at h2
    by_cases h : er = none
    · left
      rw [if_pos (show ((pr, er) : List Int × Option Int).2 = none from h)] at h2
      injection h2 with h3 h4
      exact ⟨h, h4, h3⟩
    · right
      have h5 := decode_err (b := lb) (by rw [hde]; exact h)
      rw [hde] at h5
      injection h5 with h6 h7
      rw [if_neg (show ¬ ((pr, er) : List Int × Option Int).2 = none from h)] at h2
      injection h2 with h3 h4
      exact ⟨h7, h4, h6, h3⟩)
  have LPW := Aside0.mk (show pw.length = 61 by
    rcases CASE.out with ⟨_, _, h⟩ | ⟨_, _, _, h⟩
    · rw [h]; exact LPR.out
    · rw [h]; exact none61_len)
  clear hA hB hca hcb sa hn hI hbl hx hpf hbx hde hrd
  go_enter Try.func9, Try.ntmps9
  go_upto_region 9 with (first | ((with_reducible refine gate_callee (f := 35) rfl ?_); (with_reducible refine gate_dst (N := 13) rfl ?_); (try (refine gate_guard (by rfl) ?_; dsimp only)); refine goesL_ (some 13) rfl rfl Try.func35 (by kernel_rfl) rfl #[] rfl (by (try simp only [List.map_toArray, List.map_cons, List.map_nil]); first | done | rfl) ?_; (refine (alive5_calls _).mono ?_); rintro e w_al ⟨rfl, hb_⟩; refine ⟨_, rfl, ?_⟩; have HB0_ := HB; replace HB := Aside0.mk (below_step HB.out hb_); clear hb_; clear HB0_) | ((with_reducible refine gate_callee (f := 36) rfl ?_); (with_reducible refine gate_dst (N := 20) rfl ?_); (try (refine gate_guard (by rfl) ?_; dsimp only)); refine goesL_ (some 20) rfl rfl Try.func36 (by kernel_rfl) rfl #[.int .i64 (lsn), .slice A ln.length c] rfl (by (try simp only [List.map_toArray, List.map_cons, List.map_nil]); first | done | rfl) ?_; (refine (filled_calls (lsn) A c ln _ ?side1 ?side2 ?side3).mono ?_); (case side1 => exact Kd.C_below CC.out HB.out); (case side2 => exact LC.out); (case side3 => exact SC.out); rintro e w_f ⟨rfl, hb_⟩; refine ⟨_, rfl, ?_⟩; have HB0_ := HB; replace HB := Aside0.mk (below_step HB.out hb_); rw [← NF.out]; clear hb_; clear HB0_) | ((with_reducible refine gate_dst (N := 7) rfl ?_); (try (refine gate_guard (by rfl) ?_; dsimp only)); refine page_alloc rfl rfl ?_; intro g_p w_p hg_ hp_ hb_; have G_p := Aside0.mk (show ws.heap.size ≤ g_p by rw [hg_]; exact below_size HB.out); have P_p := Aside0.mk hp_; replace HB := Aside0.mk (below_step HB.out hb_); clear hg_ hp_ hb_) | ((with_reducible refine gate_op' (.store 65 (.tmp 7) (.tmp 20)) rfl ?_); (try (refine gate_guard (by rfl) ?_; dsimp only)); refine page_store rfl rfl (.tmp 7) (.tmp 20) rfl g_p _ pf rfl rfl P_p.out (LF.out) ?_; intro w_s1 hp_ hg_; replace P_p := Aside0.mk hp_; replace HB := Aside0.mk (page_below HB.out hg_ G_p.out); clear hp_ hg_) | ((with_reducible refine gate_callee (f := 18) rfl ?_); (with_reducible refine gate_dst (N := 22) rfl ?_); (try (refine gate_guard (by rfl) ?_; dsimp only)); refine goesL_ (some 22) rfl rfl Try.func18 (by kernel_rfl) rfl #[.slice Ab lb.length cb] rfl (by (try simp only [List.map_toArray, List.map_cons, List.map_nil]); first | done | rfl) ?_; (refine (copy_calls Ab cb lb _ (Kd.C_below CBB.out HB.out) LBB.out (by have := LL.out; omega)).mono ?_); rintro e w_x ⟨A_x, c_x, rfl, ho_, hcc_, hb_⟩; refine ⟨_, rfl, ?_⟩; have HB0_ := HB; replace P_p := Aside0.mk (P_p.out.below hb_); replace HB := Aside0.mk (below_step HB.out hb_); have H_x := Aside0.mk (Kd.R_lower ho_ (below_size HB0_.out)); have L_x := Aside0.mk hcc_; clear ho_ hcc_ hb_; clear HB0_) | ((with_reducible refine gate_callee (f := 37) rfl ?_); (with_reducible refine gate_dst (N := 25) rfl ?_); (try (refine gate_guard (by rfl) ?_; dsimp only)); refine goesL_ (some 25) rfl rfl Try.func37 (by kernel_rfl) rfl #[.slice A_x lb.length c_x] rfl (by (try simp only [List.map_toArray, List.map_cons, List.map_nil]); first | done | rfl) ?_; (refine (decode_is A_x c_x lb _ ?side1 ?side2 (BLB.out) pr er (DD.out)).mono ?_); (case side1 => exact (copy_reads H_x.out)); (case side2 => exact (by have := L_x.out; omega)); rintro e w_d1 ⟨rfl, hb_⟩; refine ⟨_, rfl, ?_⟩; have HB0_ := HB; replace P_p := Aside0.mk (P_p.out.below hb_); replace H_x := Aside0.mk (Kd.R_below H_x.out hb_); replace HB := Aside0.mk (below_step HB.out hb_); clear hb_; (try simp only [errW_none, errW_some]); clear HB0_) | ((with_reducible refine gate_dst (N := 9) rfl ?_); (try (refine gate_guard (by rfl) ?_; dsimp only)); refine page_alloc rfl rfl ?_; intro g_q w_q hg_ hp_ hb_; have G_q := Aside0.mk (show ws.heap.size ≤ g_q by rw [hg_]; exact below_size HB.out); have NE_p_q := Aside0.mk (show g_p < g_q by rw [hg_]; exact P_p.out.lt); replace P_p := Aside0.mk (P_p.out.below hb_); replace H_x := Aside0.mk (Kd.R_below H_x.out hb_); have P_q := Aside0.mk hp_; replace HB := Aside0.mk (below_step HB.out hb_); clear hg_ hp_ hb_) | ((with_reducible refine gate_op' (.store 65 (.tmp 9) (.tmp 26)) rfl ?_); (try (refine gate_guard (by rfl) ?_; dsimp only)); refine page_store rfl rfl (.tmp 9) (.tmp 26) rfl g_q _ pr rfl rfl P_q.out (LPR.out) ?_; intro w_s2 hp_ hg_; replace P_p := Aside0.mk (P_p.out.grown hg_ (fun e => by injection e with e; have := NE_p_q.out; omega)); replace H_x := Aside0.mk (row_far P_q.out H_x.out (by decide) hg_); replace P_q := Aside0.mk hp_; replace HB := Aside0.mk (page_below HB.out hg_ G_q.out); clear hp_ hg_) | ((with_reducible refine gate_callee (f := 38) rfl ?_); (with_reducible refine gate_dst (N := 30) rfl ?_); (try (refine gate_guard (by rfl) ?_; dsimp only)); refine goesL_ (some 30) rfl rfl Try.func38 (by kernel_rfl) rfl #[.slice Ab lb.length cb] rfl (by (try simp only [List.map_toArray, List.map_cons, List.map_nil]); first | done | rfl) ?_; (refine (rdecode_is Ab cb lb _ (Kd.C_below CBB.out HB.out) LBB.out BLB.out pw okb RD.out).mono ?_); rintro e w_r ⟨rfl, hb_⟩; refine ⟨_, rfl, ?_⟩; have HB0_ := HB; replace P_p := Aside0.mk (P_p.out.below hb_); replace H_x := Aside0.mk (Kd.R_below H_x.out hb_); replace P_q := Aside0.mk (P_q.out.below hb_); replace HB := Aside0.mk (below_step HB.out hb_); clear hb_; clear HB0_) | ((with_reducible refine gate_dst (N := 11) rfl ?_); (try (refine gate_guard (by rfl) ?_; dsimp only)); refine page_alloc rfl rfl ?_; intro g_w w_w hg_ hp_ hb_; have G_w := Aside0.mk (show ws.heap.size ≤ g_w by rw [hg_]; exact below_size HB.out); have NE_p_w := Aside0.mk (show g_p < g_w by rw [hg_]; exact P_p.out.lt); have NE_q_w := Aside0.mk (show g_q < g_w by rw [hg_]; exact P_q.out.lt); replace P_p := Aside0.mk (P_p.out.below hb_); replace H_x := Aside0.mk (Kd.R_below H_x.out hb_); replace P_q := Aside0.mk (P_q.out.below hb_); have P_w := Aside0.mk hp_; replace HB := Aside0.mk (below_step HB.out hb_); clear hg_ hp_ hb_) | ((with_reducible refine gate_op' (.store 65 (.tmp 11) (.tmp 31)) rfl ?_); (try (refine gate_guard (by rfl) ?_; dsimp only)); refine page_store rfl rfl (.tmp 11) (.tmp 31) rfl g_w _ pw rfl rfl P_w.out (LPW.out) ?_; intro w_s3 hp_ hg_; replace P_p := Aside0.mk (P_p.out.grown hg_ (fun e => by injection e with e; have := NE_p_w.out; omega)); replace H_x := Aside0.mk (row_far P_w.out H_x.out (by decide) hg_); replace P_q := Aside0.mk (P_q.out.grown hg_ (fun e => by injection e with e; have := NE_q_w.out; omega)); replace P_w := Aside0.mk hp_; replace HB := Aside0.mk (page_below HB.out hg_ G_w.out); clear hp_ hg_))
  have hcase := CASE.out
  clear CASE
  rcases hcase with ⟨h1, h2, h3⟩ | ⟨h1, h2, h3, h4⟩
  · have h3' := h3.symm
    clear h3
    subst h1 h2 h3'
    refine region_mem (n := 35) (by kernel_rfl) rfl (fun i => 33 + i) ?hN (fun i j hi_ hj_ h => by have h' : (33 + i) = (33 + j) := h; (repeat' split at h') <;> omega) (fun i hi => by show (33 + i) < _; (repeat' split) <;> (simp; try omega)) ?hdag (fun i u_ w => match i with | 0 => u_ = .agg (pg pf) | 1 => ∃ A c, u_ = .slice A bx.length c ∧ bx.length ≤ c ∧ Kd.C (Kd.int .u8) w A bx.length bx | 2 => u_ = .string (strOfNums bx) | 3 => u_ = .agg (pg pf) | 4 => ∃ A c, u_ = .slice A bx.length c ∧ bx.length ≤ c ∧ Kd.C (Kd.int .u8) w A bx.length bx | 5 => u_ = .string (strOfNums bx) | 6 => u_ = .bool false | 7 => u_ = .bool false | 8 => u_ = .nilIface | 9 => u_ = .bool true | 10 => u_ = .bool true | 11 => u_ = .bool false | 12 => u_ = .bool false | 13 => u_ = .bool false | 14 => u_ = .bool true | 15 => u_ = .bool true | 16 => u_ = .agg (pg pr) | 17 => u_ = .agg (pg pr) | 18 => u_ = .bool false | 19 => u_ = .bool false | 20 => u_ = .bool false | 21 => u_ = .bool false | 22 => u_ = .bool true | 23 => u_ = .bool false | 24 => u_ = .bool false | 25 => u_ = undef | 26 => u_ = undef | 27 => u_ = undef | 28 => u_ = undef | 29 => u_ = undef | 30 => u_ = undef | 31 => u_ = undef | 32 => u_ = undef | 33 => u_ = .bool false | 34 => u_ = .bool false | _ => True) ?hS ?step ?hend
    case hN =>
      intro i o ho
      have hi : i < 35 := (Array.getElem?_eq_some_iff.1 ho).1
      match i, hi, ho with
      | 0, _, ho => simp only [List.getElem?_toArray, List.getElem?_cons_zero, List.getElem?_cons_succ, Option.some.injEq] at ho; subst ho; rfl
      | 1, _, ho => simp only [List.getElem?_toArray, List.getElem?_cons_zero, List.getElem?_cons_succ, Option.some.injEq] at ho; subst ho; rfl
      | 2, _, ho => simp only [List.getElem?_toArray, List.getElem?_cons_zero, List.getElem?_cons_succ, Option.some.injEq] at ho; subst ho; rfl
      | 3, _, ho => simp only [List.getElem?_toArray, List.getElem?_cons_zero, List.getElem?_cons_succ, Option.some.injEq] at ho; subst ho; rfl
      | 4, _, ho => simp only [List.getElem?_toArray, List.getElem?_cons_zero, List.getElem?_cons_succ, Option.some.injEq] at ho; subst ho; rfl
      | 5, _, ho => simp only [List.getElem?_toArray, List.getElem?_cons_zero, List.getElem?_cons_succ, Option.some.injEq] at ho; subst ho; rfl
      | 6, _, ho => simp only [List.getElem?_toArray, List.getElem?_cons_zero, List.getElem?_cons_succ, Option.some.injEq] at ho; subst ho; rfl
      | 7, _, ho => simp only [List.getElem?_toArray, List.getElem?_cons_zero, List.getElem?_cons_succ, Option.some.injEq] at ho; subst ho; rfl
      | 8, _, ho => simp only [List.getElem?_toArray, List.getElem?_cons_zero, List.getElem?_cons_succ, Option.some.injEq] at ho; subst ho; rfl
      | 9, _, ho => simp only [List.getElem?_toArray, List.getElem?_cons_zero, List.getElem?_cons_succ, Option.some.injEq] at ho; subst ho; rfl
      | 10, _, ho => simp only [List.getElem?_toArray, List.getElem?_cons_zero, List.getElem?_cons_succ, Option.some.injEq] at ho; subst ho; rfl
      | 11, _, ho => simp only [List.getElem?_toArray, List.getElem?_cons_zero, List.getElem?_cons_succ, Option.some.injEq] at ho; subst ho; rfl
      | 12, _, ho => simp only [List.getElem?_toArray, List.getElem?_cons_zero, List.getElem?_cons_succ, Option.some.injEq] at ho; subst ho; rfl
      | 13, _, ho => simp only [List.getElem?_toArray, List.getElem?_cons_zero, List.getElem?_cons_succ, Option.some.injEq] at ho; subst ho; rfl
      | 14, _, ho => simp only [List.getElem?_toArray, List.getElem?_cons_zero, List.getElem?_cons_succ, Option.some.injEq] at ho; subst ho; rfl
      | 15, _, ho => simp only [List.getElem?_toArray, List.getElem?_cons_zero, List.getElem?_cons_succ, Option.some.injEq] at ho; subst ho; rfl
      | 16, _, ho => simp only [List.getElem?_toArray, List.getElem?_cons_zero, List.getElem?_cons_succ, Option.some.injEq] at ho; subst ho; rfl
      | 17, _, ho => simp only [List.getElem?_toArray, List.getElem?_cons_zero, List.getElem?_cons_succ, Option.some.injEq] at ho; subst ho; rfl
      | 18, _, ho => simp only [List.getElem?_toArray, List.getElem?_cons_zero, List.getElem?_cons_succ, Option.some.injEq] at ho; subst ho; rfl
      | 19, _, ho => simp only [List.getElem?_toArray, List.getElem?_cons_zero, List.getElem?_cons_succ, Option.some.injEq] at ho; subst ho; rfl
      | 20, _, ho => simp only [List.getElem?_toArray, List.getElem?_cons_zero, List.getElem?_cons_succ, Option.some.injEq] at ho; subst ho; rfl
      | 21, _, ho => simp only [List.getElem?_toArray, List.getElem?_cons_zero, List.getElem?_cons_succ, Option.some.injEq] at ho; subst ho; rfl
      | 22, _, ho => simp only [List.getElem?_toArray, List.getElem?_cons_zero, List.getElem?_cons_succ, Option.some.injEq] at ho; subst ho; rfl
      | 23, _, ho => simp only [List.getElem?_toArray, List.getElem?_cons_zero, List.getElem?_cons_succ, Option.some.injEq] at ho; subst ho; rfl
      | 24, _, ho => simp only [List.getElem?_toArray, List.getElem?_cons_zero, List.getElem?_cons_succ, Option.some.injEq] at ho; subst ho; rfl
      | 25, _, ho => simp only [List.getElem?_toArray, List.getElem?_cons_zero, List.getElem?_cons_succ, Option.some.injEq] at ho; subst ho; rfl
      | 26, _, ho => simp only [List.getElem?_toArray, List.getElem?_cons_zero, List.getElem?_cons_succ, Option.some.injEq] at ho; subst ho; rfl
      | 27, _, ho => simp only [List.getElem?_toArray, List.getElem?_cons_zero, List.getElem?_cons_succ, Option.some.injEq] at ho; subst ho; rfl
      | 28, _, ho => simp only [List.getElem?_toArray, List.getElem?_cons_zero, List.getElem?_cons_succ, Option.some.injEq] at ho; subst ho; rfl
      | 29, _, ho => simp only [List.getElem?_toArray, List.getElem?_cons_zero, List.getElem?_cons_succ, Option.some.injEq] at ho; subst ho; rfl
      | 30, _, ho => simp only [List.getElem?_toArray, List.getElem?_cons_zero, List.getElem?_cons_succ, Option.some.injEq] at ho; subst ho; rfl
      | 31, _, ho => simp only [List.getElem?_toArray, List.getElem?_cons_zero, List.getElem?_cons_succ, Option.some.injEq] at ho; subst ho; rfl
      | 32, _, ho => simp only [List.getElem?_toArray, List.getElem?_cons_zero, List.getElem?_cons_succ, Option.some.injEq] at ho; subst ho; rfl
      | 33, _, ho => simp only [List.getElem?_toArray, List.getElem?_cons_zero, List.getElem?_cons_succ, Option.some.injEq] at ho; subst ho; rfl
      | 34, _, ho => simp only [List.getElem?_toArray, List.getElem?_cons_zero, List.getElem?_cons_succ, Option.some.injEq] at ho; subst ho; rfl
    case hdag =>
      intro i o ho
      have hi : i < 35 := (Array.getElem?_eq_some_iff.1 ho).1
      match i, hi, ho with
      | 0, _, ho => simp only [List.getElem?_toArray, List.getElem?_cons_zero, List.getElem?_cons_succ, Option.some.injEq] at ho; subst ho; decide
      | 1, _, ho => simp only [List.getElem?_toArray, List.getElem?_cons_zero, List.getElem?_cons_succ, Option.some.injEq] at ho; subst ho; decide
      | 2, _, ho => simp only [List.getElem?_toArray, List.getElem?_cons_zero, List.getElem?_cons_succ, Option.some.injEq] at ho; subst ho; decide
      | 3, _, ho => simp only [List.getElem?_toArray, List.getElem?_cons_zero, List.getElem?_cons_succ, Option.some.injEq] at ho; subst ho; decide
      | 4, _, ho => simp only [List.getElem?_toArray, List.getElem?_cons_zero, List.getElem?_cons_succ, Option.some.injEq] at ho; subst ho; decide
      | 5, _, ho => simp only [List.getElem?_toArray, List.getElem?_cons_zero, List.getElem?_cons_succ, Option.some.injEq] at ho; subst ho; decide
      | 6, _, ho => simp only [List.getElem?_toArray, List.getElem?_cons_zero, List.getElem?_cons_succ, Option.some.injEq] at ho; subst ho; decide
      | 7, _, ho => simp only [List.getElem?_toArray, List.getElem?_cons_zero, List.getElem?_cons_succ, Option.some.injEq] at ho; subst ho; decide
      | 8, _, ho => simp only [List.getElem?_toArray, List.getElem?_cons_zero, List.getElem?_cons_succ, Option.some.injEq] at ho; subst ho; decide
      | 9, _, ho => simp only [List.getElem?_toArray, List.getElem?_cons_zero, List.getElem?_cons_succ, Option.some.injEq] at ho; subst ho; decide
      | 10, _, ho => simp only [List.getElem?_toArray, List.getElem?_cons_zero, List.getElem?_cons_succ, Option.some.injEq] at ho; subst ho; decide
      | 11, _, ho => simp only [List.getElem?_toArray, List.getElem?_cons_zero, List.getElem?_cons_succ, Option.some.injEq] at ho; subst ho; decide
      | 12, _, ho => simp only [List.getElem?_toArray, List.getElem?_cons_zero, List.getElem?_cons_succ, Option.some.injEq] at ho; subst ho; decide
      | 13, _, ho => simp only [List.getElem?_toArray, List.getElem?_cons_zero, List.getElem?_cons_succ, Option.some.injEq] at ho; subst ho; decide
      | 14, _, ho => simp only [List.getElem?_toArray, List.getElem?_cons_zero, List.getElem?_cons_succ, Option.some.injEq] at ho; subst ho; decide
      | 15, _, ho => simp only [List.getElem?_toArray, List.getElem?_cons_zero, List.getElem?_cons_succ, Option.some.injEq] at ho; subst ho; decide
      | 16, _, ho => simp only [List.getElem?_toArray, List.getElem?_cons_zero, List.getElem?_cons_succ, Option.some.injEq] at ho; subst ho; decide
      | 17, _, ho => simp only [List.getElem?_toArray, List.getElem?_cons_zero, List.getElem?_cons_succ, Option.some.injEq] at ho; subst ho; decide
      | 18, _, ho => simp only [List.getElem?_toArray, List.getElem?_cons_zero, List.getElem?_cons_succ, Option.some.injEq] at ho; subst ho; decide
      | 19, _, ho => simp only [List.getElem?_toArray, List.getElem?_cons_zero, List.getElem?_cons_succ, Option.some.injEq] at ho; subst ho; decide
      | 20, _, ho => simp only [List.getElem?_toArray, List.getElem?_cons_zero, List.getElem?_cons_succ, Option.some.injEq] at ho; subst ho; decide
      | 21, _, ho => simp only [List.getElem?_toArray, List.getElem?_cons_zero, List.getElem?_cons_succ, Option.some.injEq] at ho; subst ho; decide
      | 22, _, ho => simp only [List.getElem?_toArray, List.getElem?_cons_zero, List.getElem?_cons_succ, Option.some.injEq] at ho; subst ho; decide
      | 23, _, ho => simp only [List.getElem?_toArray, List.getElem?_cons_zero, List.getElem?_cons_succ, Option.some.injEq] at ho; subst ho; decide
      | 24, _, ho => simp only [List.getElem?_toArray, List.getElem?_cons_zero, List.getElem?_cons_succ, Option.some.injEq] at ho; subst ho; decide
      | 25, _, ho => simp only [List.getElem?_toArray, List.getElem?_cons_zero, List.getElem?_cons_succ, Option.some.injEq] at ho; subst ho; decide
      | 26, _, ho => simp only [List.getElem?_toArray, List.getElem?_cons_zero, List.getElem?_cons_succ, Option.some.injEq] at ho; subst ho; decide
      | 27, _, ho => simp only [List.getElem?_toArray, List.getElem?_cons_zero, List.getElem?_cons_succ, Option.some.injEq] at ho; subst ho; decide
      | 28, _, ho => simp only [List.getElem?_toArray, List.getElem?_cons_zero, List.getElem?_cons_succ, Option.some.injEq] at ho; subst ho; decide
      | 29, _, ho => simp only [List.getElem?_toArray, List.getElem?_cons_zero, List.getElem?_cons_succ, Option.some.injEq] at ho; subst ho; decide
      | 30, _, ho => simp only [List.getElem?_toArray, List.getElem?_cons_zero, List.getElem?_cons_succ, Option.some.injEq] at ho; subst ho; decide
      | 31, _, ho => simp only [List.getElem?_toArray, List.getElem?_cons_zero, List.getElem?_cons_succ, Option.some.injEq] at ho; subst ho; decide
      | 32, _, ho => simp only [List.getElem?_toArray, List.getElem?_cons_zero, List.getElem?_cons_succ, Option.some.injEq] at ho; subst ho; decide
      | 33, _, ho => simp only [List.getElem?_toArray, List.getElem?_cons_zero, List.getElem?_cons_succ, Option.some.injEq] at ho; subst ho; decide
      | 34, _, ho => simp only [List.getElem?_toArray, List.getElem?_cons_zero, List.getElem?_cons_succ, Option.some.injEq] at ho; subst ho; decide
    case hS =>
      intro i u_ w w' h hb
      match i, h with
      | 0, h => exact h
      | 1, ⟨A, c, h1, h2, h3⟩ => exact ⟨A, c, h1, h2, Kd.C_below h3 hb⟩
      | 2, h => exact h
      | 3, h => exact h
      | 4, ⟨A, c, h1, h2, h3⟩ => exact ⟨A, c, h1, h2, Kd.C_below h3 hb⟩
      | 5, h => exact h
      | 6, h => exact h
      | 7, h => exact h
      | 8, h => exact h
      | 9, h => exact h
      | 10, h => exact h
      | 11, h => exact h
      | 12, h => exact h
      | 13, h => exact h
      | 14, h => exact h
      | 15, h => exact h
      | 16, h => exact h
      | 17, h => exact h
      | 18, h => exact h
      | 19, h => exact h
      | 20, h => exact h
      | 21, h => exact h
      | 22, h => exact h
      | 23, h => exact h
      | 24, h => exact h
      | 25, h => exact h
      | 26, h => exact h
      | 27, h => exact h
      | 28, h => exact h
      | 29, h => exact h
      | 30, h => exact h
      | 31, h => exact h
      | 32, h => exact h
      | 33, h => exact h
      | 34, h => exact h
      | _ + 35, _ => trivial
    case step =>
      intro i o a w ho hd hs hf hb hdep
      have hi : i < 35 := (Array.getElem?_eq_some_iff.1 ho).1
      match i, hi, ho with
      | 0, _, ho =>
        simp only [List.getElem?_toArray, List.getElem?_cons_zero, List.getElem?_cons_succ, Option.some.injEq] at ho
        subst ho
        have e7 : a.eval (.tmp 7) = .pointer (some ⟨g_p, 0, none⟩) := ev_of ((hf 7 (fun j hj => by show (33 + j) ≠ 7; (repeat' split) <;> omega)).trans rfl)
        exact reg_value (S := fun u_ w => u_ = .agg (pg pf)) (v := .agg (pg pf)) (w' := w) rfl (run_page_load _ rfl g_p pf e7 (P_p.out.below hb)) rfl (Below.refl _ _)
      | 1, _, ho =>
        simp only [List.getElem?_toArray, List.getElem?_cons_zero, List.getElem?_cons_succ, Option.some.injEq] at ho
        subst ho
        have t33 : a.tmps[33]? = some (.agg (pg pf)) := by obtain ⟨u_, h1, h2⟩ := hdep ⟨0, .data⟩ (by simp) rfl; rw [show u_ = .agg (pg pf) from h2] at h1; exact h1
        have e33 := ev_of t33
        refine reg_call (S := fun u_ w => ∃ A c, u_ = .slice A bx.length c ∧ bx.length ≤ c ∧ Kd.C (Kd.int .u8) w A bx.length bx) rfl (reg_enters Try.func39 (by kernel_rfl) rfl #[.agg (pg pf)] rfl (by simp only [List.map_toArray, List.map_cons, List.map_nil, e33])) ?_
        refine (encode_page pf w IP.out LF.out).mono ?_
        rintro e w' ⟨v0, rfl, ho, hbw⟩
        rw [← NB.out] at ho
        obtain ⟨A, c, he, hl, hC⟩ := Kd.R_reads ho
        exact ⟨_, rfl, ⟨A, c, he, hl, hC⟩, hbw⟩
      | 2, _, ho =>
        simp only [List.getElem?_toArray, List.getElem?_cons_zero, List.getElem?_cons_succ, Option.some.injEq] at ho
        subst ho
        obtain ⟨v1, t34, A1, c1, q1, l1, C1⟩ : ∃ v, a.tmps[34]? = some v ∧ ∃ A c, v = .slice A bx.length c ∧ bx.length ≤ c ∧ Kd.C (Kd.int .u8) w A bx.length bx := hdep ⟨1, .data⟩ (by simp) rfl
        subst q1
        have e34 := ev_of t34
        have hcv := Kd.C_string (P := Try.prog) (A := A1) (c := c1) Try.underlying22 Try.underlying5 Try.underlying9 C1
        exact reg_value (S := fun u_ w => u_ = .string (strOfNums bx)) (v := .string (strOfNums bx)) (w' := w) rfl (by simp only [execOp, e34]; go_simp) rfl (Below.refl _ _)
      | 3, _, ho =>
        simp only [List.getElem?_toArray, List.getElem?_cons_zero, List.getElem?_cons_succ, Option.some.injEq] at ho
        subst ho
        have e7 : a.eval (.tmp 7) = .pointer (some ⟨g_p, 0, none⟩) := ev_of ((hf 7 (fun j hj => by show (33 + j) ≠ 7; (repeat' split) <;> omega)).trans rfl)
        exact reg_value (S := fun u_ w => u_ = .agg (pg pf)) (v := .agg (pg pf)) (w' := w) rfl (run_page_load _ rfl g_p pf e7 (P_p.out.below hb)) rfl (Below.refl _ _)
      | 4, _, ho =>
        simp only [List.getElem?_toArray, List.getElem?_cons_zero, List.getElem?_cons_succ, Option.some.injEq] at ho
        subst ho
        have t36 : a.tmps[36]? = some (.agg (pg pf)) := by obtain ⟨u_, h1, h2⟩ := hdep ⟨3, .data⟩ (by simp) rfl; rw [show u_ = .agg (pg pf) from h2] at h1; exact h1
        have e36 := ev_of t36
        refine reg_call (S := fun u_ w => ∃ A c, u_ = .slice A bx.length c ∧ bx.length ≤ c ∧ Kd.C (Kd.int .u8) w A bx.length bx) rfl (reg_enters Try.func40 (by kernel_rfl) rfl #[.agg (pg pf)] rfl (by simp only [List.map_toArray, List.map_cons, List.map_nil, e36])) ?_
        refine (rencode_page pf w IP.out LF.out).mono ?_
        rintro e w' ⟨v0, rfl, ho, hbw⟩
        rw [← NB.out] at ho
        obtain ⟨A, c, he, hl, hC⟩ := Kd.R_reads ho
        exact ⟨_, rfl, ⟨A, c, he, hl, hC⟩, hbw⟩
      | 5, _, ho =>
        simp only [List.getElem?_toArray, List.getElem?_cons_zero, List.getElem?_cons_succ, Option.some.injEq] at ho
        subst ho
        obtain ⟨v4, t37, A4, c4, q4, l4, C4⟩ : ∃ v, a.tmps[37]? = some v ∧ ∃ A c, v = .slice A bx.length c ∧ bx.length ≤ c ∧ Kd.C (Kd.int .u8) w A bx.length bx := hdep ⟨4, .data⟩ (by simp) rfl
        subst q4
        have e37 := ev_of t37
        have hcv := Kd.C_string (P := Try.prog) (A := A4) (c := c4) Try.underlying22 Try.underlying5 Try.underlying9 C4
        exact reg_value (S := fun u_ w => u_ = .string (strOfNums bx)) (v := .string (strOfNums bx)) (w' := w) rfl (by simp only [execOp, e37]; go_simp) rfl (Below.refl _ _)
      | 6, _, ho =>
        simp only [List.getElem?_toArray, List.getElem?_cons_zero, List.getElem?_cons_succ, Option.some.injEq] at ho
        subst ho
        have t35 : a.tmps[35]? = some (.string (strOfNums bx)) := by obtain ⟨u_, h1, h2⟩ := hdep ⟨2, .data⟩ (by simp) rfl; rw [show u_ = .string (strOfNums bx) from h2] at h1; exact h1
        have e35 := ev_of t35
        have t38 : a.tmps[38]? = some (.string (strOfNums bx)) := by obtain ⟨u_, h1, h2⟩ := hdep ⟨5, .data⟩ (by simp) rfl; rw [show u_ = .string (strOfNums bx) from h2] at h1; exact h1
        have e38 := ev_of t38
        exact reg_value (S := fun u_ w => u_ = .bool false) (v := .bool false) (w' := w) rfl (by simp only [execOp, e35, e38]; go_simp) rfl (Below.refl _ _)
      | 7, _, ho =>
        simp only [List.getElem?_toArray, List.getElem?_cons_zero, List.getElem?_cons_succ, Option.some.injEq] at ho
        subst ho
        have t39 : a.tmps[39]? = some (.bool false) := by obtain ⟨u_, h1, h2⟩ := hdep ⟨6, .data⟩ (by simp) rfl; rw [show u_ = .bool false from h2] at h1; exact h1
        have e39 := ev_of t39
        exact reg_value (S := fun u_ w => u_ = .bool false) (v := .bool false) (w' := w) rfl (by simp only [execOp, e39]; go_simp) rfl (Below.refl _ _)
      | 8, _, ho =>
        simp only [List.getElem?_toArray, List.getElem?_cons_zero, List.getElem?_cons_succ, Option.some.injEq] at ho
        subst ho
        have e10 : a.eval (.tmp 10) = .nilIface := ev_of ((hf 10 (fun j hj => by show (33 + j) ≠ 10; (repeat' split) <;> omega)).trans rfl)
        have t40 : a.tmps[40]? = some (.bool false) := by obtain ⟨u_, h1, h2⟩ := hdep ⟨7, .guard⟩ (by simp) rfl; rw [show u_ = .bool false from h2] at h1; exact h1
        have e40 := ev_of t40
        exact reg_value (S := fun u_ w => u_ = .nilIface) (v := .nilIface) (w' := w) (wanted_of 7 false false true t40 rfl rfl rfl) (by simp only [execOp, e10, e40]; go_simp) rfl (Below.refl _ _)
      | 9, _, ho =>
        simp only [List.getElem?_toArray, List.getElem?_cons_zero, List.getElem?_cons_succ, Option.some.injEq] at ho
        subst ho
        have t41 : a.tmps[41]? = some (.nilIface) := by obtain ⟨u_, h1, h2⟩ := hdep ⟨8, .data⟩ (by simp) rfl; rw [show u_ = .nilIface from h2] at h1; exact h1
        have e41 := ev_of t41
        have t40 : a.tmps[40]? = some (.bool false) := by obtain ⟨u_, h1, h2⟩ := hdep ⟨7, .guard⟩ (by simp) rfl; rw [show u_ = .bool false from h2] at h1; exact h1
        have e40 := ev_of t40
        exact reg_value (S := fun u_ w => u_ = .bool true) (v := .bool true) (w' := w) (wanted_of 7 false false true t40 rfl rfl rfl) (by simp only [execOp, e41, e40]; go_simp) rfl (Below.refl _ _)
      | 10, _, ho =>
        simp only [List.getElem?_toArray, List.getElem?_cons_zero, List.getElem?_cons_succ, Option.some.injEq] at ho
        subst ho
        have e12 : a.eval (.tmp 12) = .bool true := ev_of ((hf 12 (fun j hj => by show (33 + j) ≠ 12; (repeat' split) <;> omega)).trans rfl)
        have t40 : a.tmps[40]? = some (.bool false) := by obtain ⟨u_, h1, h2⟩ := hdep ⟨7, .guard⟩ (by simp) rfl; rw [show u_ = .bool false from h2] at h1; exact h1
        have e40 := ev_of t40
        exact reg_value (S := fun u_ w => u_ = .bool true) (v := .bool true) (w' := w) (wanted_of 7 false false true t40 rfl rfl rfl) (by simp only [execOp, e12, e40]; go_simp) rfl (Below.refl _ _)
      | 11, _, ho =>
        simp only [List.getElem?_toArray, List.getElem?_cons_zero, List.getElem?_cons_succ, Option.some.injEq] at ho
        subst ho
        have t42 : a.tmps[42]? = some (.bool true) := by obtain ⟨u_, h1, h2⟩ := hdep ⟨9, .data⟩ (by simp) rfl; rw [show u_ = .bool true from h2] at h1; exact h1
        have e42 := ev_of t42
        have t43 : a.tmps[43]? = some (.bool true) := by obtain ⟨u_, h1, h2⟩ := hdep ⟨10, .data⟩ (by simp) rfl; rw [show u_ = .bool true from h2] at h1; exact h1
        have e43 := ev_of t43
        have t40 : a.tmps[40]? = some (.bool false) := by obtain ⟨u_, h1, h2⟩ := hdep ⟨7, .guard⟩ (by simp) rfl; rw [show u_ = .bool false from h2] at h1; exact h1
        have e40 := ev_of t40
        exact reg_value (S := fun u_ w => u_ = .bool false) (v := .bool false) (w' := w) (wanted_of 7 false false true t40 rfl rfl rfl) (by simp only [execOp, e42, e43, e40]; go_simp) rfl (Below.refl _ _)
      | 12, _, ho =>
        simp only [List.getElem?_toArray, List.getElem?_cons_zero, List.getElem?_cons_succ, Option.some.injEq] at ho
        subst ho
        have t40 : a.tmps[40]? = some (.bool false) := by obtain ⟨u_, h1, h2⟩ := hdep ⟨7, .data⟩ (by simp) rfl; rw [show u_ = .bool false from h2] at h1; exact h1
        have e40 := ev_of t40
        have t44 : a.tmps[44]? = some (.bool false) := by obtain ⟨u_, h1, h2⟩ := hdep ⟨11, .data⟩ (by simp) rfl; rw [show u_ = .bool false from h2] at h1; exact h1
        have e44 := ev_of t44
        exact reg_value (S := fun u_ w => u_ = .bool false) (v := .bool false) (w' := w) rfl (by simp only [execOp, e40, e44]; go_simp) rfl (Below.refl _ _)
      | 13, _, ho =>
        simp only [List.getElem?_toArray, List.getElem?_cons_zero, List.getElem?_cons_succ, Option.some.injEq] at ho
        subst ho
        have t45 : a.tmps[45]? = some (.bool false) := by obtain ⟨u_, h1, h2⟩ := hdep ⟨12, .data⟩ (by simp) rfl; rw [show u_ = .bool false from h2] at h1; exact h1
        have e45 := ev_of t45
        exact reg_value (S := fun u_ w => u_ = .bool false) (v := .bool false) (w' := w) rfl (by simp only [execOp, e45]; go_simp) rfl (Below.refl _ _)
      | 14, _, ho =>
        simp only [List.getElem?_toArray, List.getElem?_cons_zero, List.getElem?_cons_succ, Option.some.injEq] at ho
        subst ho
        have e12 : a.eval (.tmp 12) = .bool true := ev_of ((hf 12 (fun j hj => by show (33 + j) ≠ 12; (repeat' split) <;> omega)).trans rfl)
        have t46 : a.tmps[46]? = some (.bool false) := by obtain ⟨u_, h1, h2⟩ := hdep ⟨13, .guard⟩ (by simp) rfl; rw [show u_ = .bool false from h2] at h1; exact h1
        have e46 := ev_of t46
        exact reg_value (S := fun u_ w => u_ = .bool true) (v := .bool true) (w' := w) (wanted_of 13 false false true t46 rfl rfl rfl) (by simp only [execOp, e12, e46]; go_simp) rfl (Below.refl _ _)
      | 15, _, ho =>
        simp only [List.getElem?_toArray, List.getElem?_cons_zero, List.getElem?_cons_succ, Option.some.injEq] at ho
        subst ho
        have t47 : a.tmps[47]? = some (.bool true) := by obtain ⟨u_, h1, h2⟩ := hdep ⟨14, .data⟩ (by simp) rfl; rw [show u_ = .bool true from h2] at h1; exact h1
        have e47 := ev_of t47
        have t46 : a.tmps[46]? = some (.bool false) := by obtain ⟨u_, h1, h2⟩ := hdep ⟨13, .guard⟩ (by simp) rfl; rw [show u_ = .bool false from h2] at h1; exact h1
        have e46 := ev_of t46
        exact reg_value (S := fun u_ w => u_ = .bool true) (v := .bool true) (w' := w) (wanted_of 13 false false true t46 rfl rfl rfl) (by simp only [execOp, e47, e46]; go_simp) rfl (Below.refl _ _)
      | 16, _, ho =>
        simp only [List.getElem?_toArray, List.getElem?_cons_zero, List.getElem?_cons_succ, Option.some.injEq] at ho
        subst ho
        have e9 : a.eval (.tmp 9) = .pointer (some ⟨g_q, 0, none⟩) := ev_of ((hf 9 (fun j hj => by show (33 + j) ≠ 9; (repeat' split) <;> omega)).trans rfl)
        have t48 : a.tmps[48]? = some (.bool true) := by obtain ⟨u_, h1, h2⟩ := hdep ⟨15, .guard⟩ (by simp) rfl; rw [show u_ = .bool true from h2] at h1; exact h1
        have e48 := ev_of t48
        exact reg_value (S := fun u_ w => u_ = .agg (pg pr)) (v := .agg (pg pr)) (w' := w) (wanted_of 15 true true true t48 rfl rfl rfl) (run_page_load _ rfl g_q pr e9 (P_q.out.below hb)) rfl (Below.refl _ _)
      | 17, _, ho =>
        simp only [List.getElem?_toArray, List.getElem?_cons_zero, List.getElem?_cons_succ, Option.some.injEq] at ho
        subst ho
        have e11 : a.eval (.tmp 11) = .pointer (some ⟨g_w, 0, none⟩) := ev_of ((hf 11 (fun j hj => by show (33 + j) ≠ 11; (repeat' split) <;> omega)).trans rfl)
        have t48 : a.tmps[48]? = some (.bool true) := by obtain ⟨u_, h1, h2⟩ := hdep ⟨15, .guard⟩ (by simp) rfl; rw [show u_ = .bool true from h2] at h1; exact h1
        have e48 := ev_of t48
        exact reg_value (S := fun u_ w => u_ = .agg (pg pr)) (v := .agg (pg pr)) (w' := w) (wanted_of 15 true true true t48 rfl rfl rfl) (run_page_load _ rfl g_w pr e11 (P_w.out.below hb)) rfl (Below.refl _ _)
      | 18, _, ho =>
        simp only [List.getElem?_toArray, List.getElem?_cons_zero, List.getElem?_cons_succ, Option.some.injEq] at ho
        subst ho
        have t49 : a.tmps[49]? = some (.agg (pg pr)) := by obtain ⟨u_, h1, h2⟩ := hdep ⟨16, .data⟩ (by simp) rfl; rw [show u_ = .agg (pg pr) from h2] at h1; exact h1
        have e49 := ev_of t49
        have t50 : a.tmps[50]? = some (.agg (pg pr)) := by obtain ⟨u_, h1, h2⟩ := hdep ⟨17, .data⟩ (by simp) rfl; rw [show u_ = .agg (pg pr) from h2] at h1; exact h1
        have e50 := ev_of t50
        have t48 : a.tmps[48]? = some (.bool true) := by obtain ⟨u_, h1, h2⟩ := hdep ⟨15, .guard⟩ (by simp) rfl; rw [show u_ = .bool true from h2] at h1; exact h1
        have e48 := ev_of t48
        exact reg_value (S := fun u_ w => u_ = .bool false) (v := .bool (!true)) (w' := w) (wanted_of 15 true true true t48 rfl rfl rfl) (run_page_neq _ _ rfl pr pr e49 e50 LPR.out LPR.out true (decide_eq_true rfl)) rfl (Below.refl _ _)
      | 19, _, ho =>
        simp only [List.getElem?_toArray, List.getElem?_cons_zero, List.getElem?_cons_succ, Option.some.injEq] at ho
        subst ho
        have t48 : a.tmps[48]? = some (.bool true) := by obtain ⟨u_, h1, h2⟩ := hdep ⟨15, .data⟩ (by simp) rfl; rw [show u_ = .bool true from h2] at h1; exact h1
        have e48 := ev_of t48
        have t51 : a.tmps[51]? = some (.bool false) := by obtain ⟨u_, h1, h2⟩ := hdep ⟨18, .data⟩ (by simp) rfl; rw [show u_ = .bool false from h2] at h1; exact h1
        have e51 := ev_of t51
        have t46 : a.tmps[46]? = some (.bool false) := by obtain ⟨u_, h1, h2⟩ := hdep ⟨13, .guard⟩ (by simp) rfl; rw [show u_ = .bool false from h2] at h1; exact h1
        have e46 := ev_of t46
        exact reg_value (S := fun u_ w => u_ = .bool false) (v := .bool false) (w' := w) (wanted_of 13 false false true t46 rfl rfl rfl) (by simp only [execOp, e48, e51, e46]; go_simp) rfl (Below.refl _ _)
      | 20, _, ho =>
        simp only [List.getElem?_toArray, List.getElem?_cons_zero, List.getElem?_cons_succ, Option.some.injEq] at ho
        subst ho
        have t46 : a.tmps[46]? = some (.bool false) := by obtain ⟨u_, h1, h2⟩ := hdep ⟨13, .data⟩ (by simp) rfl; rw [show u_ = .bool false from h2] at h1; exact h1
        have e46 := ev_of t46
        have t52 : a.tmps[52]? = some (.bool false) := by obtain ⟨u_, h1, h2⟩ := hdep ⟨19, .data⟩ (by simp) rfl; rw [show u_ = .bool false from h2] at h1; exact h1
        have e52 := ev_of t52
        exact reg_value (S := fun u_ w => u_ = .bool false) (v := .bool false) (w' := w) rfl (by simp only [execOp, e46, e52]; go_simp) rfl (Below.refl _ _)
      | 21, _, ho =>
        simp only [List.getElem?_toArray, List.getElem?_cons_zero, List.getElem?_cons_succ, Option.some.injEq] at ho
        subst ho
        have t53 : a.tmps[53]? = some (.bool false) := by obtain ⟨u_, h1, h2⟩ := hdep ⟨20, .data⟩ (by simp) rfl; rw [show u_ = .bool false from h2] at h1; exact h1
        have e53 := ev_of t53
        exact reg_value (S := fun u_ w => u_ = .bool false) (v := .bool false) (w' := w) rfl (by simp only [execOp, e53]; go_simp) rfl (Below.refl _ _)
      | 22, _, ho =>
        simp only [List.getElem?_toArray, List.getElem?_cons_zero, List.getElem?_cons_succ, Option.some.injEq] at ho
        subst ho
        have e12 : a.eval (.tmp 12) = .bool true := ev_of ((hf 12 (fun j hj => by show (33 + j) ≠ 12; (repeat' split) <;> omega)).trans rfl)
        have t54 : a.tmps[54]? = some (.bool false) := by obtain ⟨u_, h1, h2⟩ := hdep ⟨21, .guard⟩ (by simp) rfl; rw [show u_ = .bool false from h2] at h1; exact h1
        have e54 := ev_of t54
        exact reg_value (S := fun u_ w => u_ = .bool true) (v := .bool true) (w' := w) (wanted_of 21 false false true t54 rfl rfl rfl) (by simp only [execOp, e12, e54]; go_simp) rfl (Below.refl _ _)
      | 23, _, ho =>
        simp only [List.getElem?_toArray, List.getElem?_cons_zero, List.getElem?_cons_succ, Option.some.injEq] at ho
        subst ho
        have t55 : a.tmps[55]? = some (.bool true) := by obtain ⟨u_, h1, h2⟩ := hdep ⟨22, .data⟩ (by simp) rfl; rw [show u_ = .bool true from h2] at h1; exact h1
        have e55 := ev_of t55
        have t54 : a.tmps[54]? = some (.bool false) := by obtain ⟨u_, h1, h2⟩ := hdep ⟨21, .guard⟩ (by simp) rfl; rw [show u_ = .bool false from h2] at h1; exact h1
        have e54 := ev_of t54
        exact reg_value (S := fun u_ w => u_ = .bool false) (v := .bool false) (w' := w) (wanted_of 21 false false true t54 rfl rfl rfl) (by simp only [execOp, e55, e54]; go_simp) rfl (Below.refl _ _)
      | 24, _, ho =>
        simp only [List.getElem?_toArray, List.getElem?_cons_zero, List.getElem?_cons_succ, Option.some.injEq] at ho
        subst ho
        have t56 : a.tmps[56]? = some (.bool false) := by obtain ⟨u_, h1, h2⟩ := hdep ⟨23, .data⟩ (by simp) rfl; rw [show u_ = .bool false from h2] at h1; exact h1
        have e56 := ev_of t56
        have t54 : a.tmps[54]? = some (.bool false) := by obtain ⟨u_, h1, h2⟩ := hdep ⟨21, .guard⟩ (by simp) rfl; rw [show u_ = .bool false from h2] at h1; exact h1
        have e54 := ev_of t54
        exact reg_value (S := fun u_ w => u_ = .bool false) (v := .bool false) (w' := w) (wanted_of 21 false false true t54 rfl rfl rfl) (by simp only [execOp, e56, e54]; go_simp) rfl (Below.refl _ _)
      | 25, _, ho =>
        simp only [List.getElem?_toArray, List.getElem?_cons_zero, List.getElem?_cons_succ, Option.some.injEq] at ho
        subst ho
        have t57 : a.tmps[57]? = some (.bool false) := by obtain ⟨u_, h1, h2⟩ := hdep ⟨24, .guard⟩ (by simp) rfl; rw [show u_ = .bool false from h2] at h1; exact h1
        have e57 := ev_of t57
        exact reg_skip (S := fun u_ w => u_ = undef) (wanted_of 24 true false false t57 rfl rfl rfl) rfl
      | 26, _, ho =>
        simp only [List.getElem?_toArray, List.getElem?_cons_zero, List.getElem?_cons_succ, Option.some.injEq] at ho
        subst ho
        have t57 : a.tmps[57]? = some (.bool false) := by obtain ⟨u_, h1, h2⟩ := hdep ⟨24, .guard⟩ (by simp) rfl; rw [show u_ = .bool false from h2] at h1; exact h1
        have e57 := ev_of t57
        exact reg_skip (S := fun u_ w => u_ = undef) (wanted_of 24 true false false t57 rfl rfl rfl) rfl
      | 27, _, ho =>
        simp only [List.getElem?_toArray, List.getElem?_cons_zero, List.getElem?_cons_succ, Option.some.injEq] at ho
        subst ho
        have t57 : a.tmps[57]? = some (.bool false) := by obtain ⟨u_, h1, h2⟩ := hdep ⟨24, .guard⟩ (by simp) rfl; rw [show u_ = .bool false from h2] at h1; exact h1
        have e57 := ev_of t57
        exact reg_skip (S := fun u_ w => u_ = undef) (wanted_of 24 true false false t57 rfl rfl rfl) rfl
      | 28, _, ho =>
        simp only [List.getElem?_toArray, List.getElem?_cons_zero, List.getElem?_cons_succ, Option.some.injEq] at ho
        subst ho
        have t57 : a.tmps[57]? = some (.bool false) := by obtain ⟨u_, h1, h2⟩ := hdep ⟨24, .guard⟩ (by simp) rfl; rw [show u_ = .bool false from h2] at h1; exact h1
        have e57 := ev_of t57
        exact reg_skip (S := fun u_ w => u_ = undef) (wanted_of 24 true false false t57 rfl rfl rfl) rfl
      | 29, _, ho =>
        simp only [List.getElem?_toArray, List.getElem?_cons_zero, List.getElem?_cons_succ, Option.some.injEq] at ho
        subst ho
        have t61 : a.tmps[61]? = some (undef) := by obtain ⟨u_, h1, h2⟩ := hdep ⟨28, .guard⟩ (by simp) rfl; rw [show u_ = undef from h2] at h1; exact h1
        have e61 := ev_of t61
        exact reg_skip (S := fun u_ w => u_ = undef) (unwanted_of 28 false t61 rfl rfl) rfl
      | 30, _, ho =>
        simp only [List.getElem?_toArray, List.getElem?_cons_zero, List.getElem?_cons_succ, Option.some.injEq] at ho
        subst ho
        have t61 : a.tmps[61]? = some (undef) := by obtain ⟨u_, h1, h2⟩ := hdep ⟨28, .guard⟩ (by simp) rfl; rw [show u_ = undef from h2] at h1; exact h1
        have e61 := ev_of t61
        exact reg_skip (S := fun u_ w => u_ = undef) (unwanted_of 28 false t61 rfl rfl) rfl
      | 31, _, ho =>
        simp only [List.getElem?_toArray, List.getElem?_cons_zero, List.getElem?_cons_succ, Option.some.injEq] at ho
        subst ho
        have t61 : a.tmps[61]? = some (undef) := by obtain ⟨u_, h1, h2⟩ := hdep ⟨28, .guard⟩ (by simp) rfl; rw [show u_ = undef from h2] at h1; exact h1
        have e61 := ev_of t61
        exact reg_skip (S := fun u_ w => u_ = undef) (unwanted_of 28 false t61 rfl rfl) rfl
      | 32, _, ho =>
        simp only [List.getElem?_toArray, List.getElem?_cons_zero, List.getElem?_cons_succ, Option.some.injEq] at ho
        subst ho
        have t57 : a.tmps[57]? = some (.bool false) := by obtain ⟨u_, h1, h2⟩ := hdep ⟨24, .guard⟩ (by simp) rfl; rw [show u_ = .bool false from h2] at h1; exact h1
        have e57 := ev_of t57
        exact reg_skip (S := fun u_ w => u_ = undef) (wanted_of 24 true false false t57 rfl rfl rfl) rfl
      | 33, _, ho =>
        simp only [List.getElem?_toArray, List.getElem?_cons_zero, List.getElem?_cons_succ, Option.some.injEq] at ho
        subst ho
        have t57 : a.tmps[57]? = some (.bool false) := by obtain ⟨u_, h1, h2⟩ := hdep ⟨24, .data⟩ (by simp) rfl; rw [show u_ = .bool false from h2] at h1; exact h1
        have e57 := ev_of t57
        have t65 : a.tmps[65]? = some (undef) := by obtain ⟨u_, h1, h2⟩ := hdep ⟨32, .data⟩ (by simp) rfl; rw [show u_ = undef from h2] at h1; exact h1
        have e65 := ev_of t65
        have t54 : a.tmps[54]? = some (.bool false) := by obtain ⟨u_, h1, h2⟩ := hdep ⟨21, .guard⟩ (by simp) rfl; rw [show u_ = .bool false from h2] at h1; exact h1
        have e54 := ev_of t54
        exact reg_value (S := fun u_ w => u_ = .bool false) (v := .bool false) (w' := w) (wanted_of 21 false false true t54 rfl rfl rfl) (by simp only [execOp, e57, e65, e54]; go_simp) rfl (Below.refl _ _)
      | 34, _, ho =>
        simp only [List.getElem?_toArray, List.getElem?_cons_zero, List.getElem?_cons_succ, Option.some.injEq] at ho
        subst ho
        have t54 : a.tmps[54]? = some (.bool false) := by obtain ⟨u_, h1, h2⟩ := hdep ⟨21, .data⟩ (by simp) rfl; rw [show u_ = .bool false from h2] at h1; exact h1
        have e54 := ev_of t54
        have t66 : a.tmps[66]? = some (.bool false) := by obtain ⟨u_, h1, h2⟩ := hdep ⟨33, .data⟩ (by simp) rfl; rw [show u_ = .bool false from h2] at h1; exact h1
        have e66 := ev_of t66
        exact reg_value (S := fun u_ w => u_ = .bool false) (v := .bool false) (w' := w) rfl (by simp only [execOp, e54, e66]; go_simp) rfl (Below.refl _ _)
    case hend =>
      intro vs w hb hall
      have s0 : vs 0 = .agg (pg pf) := hall 0 (by omega)
      obtain ⟨A1, c1, s1, l1, C1⟩ : ∃ A c, vs 1 = .slice A bx.length c ∧ bx.length ≤ c ∧ Kd.C (Kd.int .u8) w A bx.length bx := hall 1 (by omega)
      have s2 : vs 2 = .string (strOfNums bx) := hall 2 (by omega)
      have s3 : vs 3 = .agg (pg pf) := hall 3 (by omega)
      obtain ⟨A4, c4, s4, l4, C4⟩ : ∃ A c, vs 4 = .slice A bx.length c ∧ bx.length ≤ c ∧ Kd.C (Kd.int .u8) w A bx.length bx := hall 4 (by omega)
      have s5 : vs 5 = .string (strOfNums bx) := hall 5 (by omega)
      have s6 : vs 6 = .bool false := hall 6 (by omega)
      have s7 : vs 7 = .bool false := hall 7 (by omega)
      have s8 : vs 8 = .nilIface := hall 8 (by omega)
      have s9 : vs 9 = .bool true := hall 9 (by omega)
      have s10 : vs 10 = .bool true := hall 10 (by omega)
      have s11 : vs 11 = .bool false := hall 11 (by omega)
      have s12 : vs 12 = .bool false := hall 12 (by omega)
      have s13 : vs 13 = .bool false := hall 13 (by omega)
      have s14 : vs 14 = .bool true := hall 14 (by omega)
      have s15 : vs 15 = .bool true := hall 15 (by omega)
      have s16 : vs 16 = .agg (pg pr) := hall 16 (by omega)
      have s17 : vs 17 = .agg (pg pr) := hall 17 (by omega)
      have s18 : vs 18 = .bool false := hall 18 (by omega)
      have s19 : vs 19 = .bool false := hall 19 (by omega)
      have s20 : vs 20 = .bool false := hall 20 (by omega)
      have s21 : vs 21 = .bool false := hall 21 (by omega)
      have s22 : vs 22 = .bool true := hall 22 (by omega)
      have s23 : vs 23 = .bool false := hall 23 (by omega)
      have s24 : vs 24 = .bool false := hall 24 (by omega)
      have s25 : vs 25 = undef := hall 25 (by omega)
      have s26 : vs 26 = undef := hall 26 (by omega)
      have s27 : vs 27 = undef := hall 27 (by omega)
      have s28 : vs 28 = undef := hall 28 (by omega)
      have s29 : vs 29 = undef := hall 29 (by omega)
      have s30 : vs 30 = undef := hall 30 (by omega)
      have s31 : vs 31 = undef := hall 31 (by omega)
      have s32 : vs 32 = undef := hall 32 (by omega)
      have s33 : vs 33 = .bool false := hall 33 (by omega)
      have s34 : vs 34 = .bool false := hall 34 (by omega)
      simp only [fillN, Act.put, reduceIte, Nat.reduceEqDiff, Nat.reduceAdd, s0, s1, s2, s3, s4, s5, s6, s7, s8, s9, s10, s11, s12, s13, s14, s15, s16, s17, s18, s19, s20, s21, s22, s23, s24, s25, s26, s27, s28, s29, s30, s31, s32, s33, s34, List.setIfInBounds_toArray, List.set_cons_zero, List.set_cons_succ, Nat.reduceAdd]
      replace H_x := Aside0.mk (Kd.R_below H_x.out hb)
      replace HB := Aside0.mk (below_step HB.out hb)
      clear hall hb
      go_wp2_with (first | ((with_reducible refine gate_callee (f := 23) rfl ?_); (with_reducible refine gate_dst (N := 70) rfl ?_); (try (refine gate_guard (by rfl) ?_; dsimp only)); refine goesL_ (some 70) rfl rfl Try.func23 (by kernel_rfl) rfl #[.slice A_x lb.length c_x, .slice Ab lb.length cb] rfl (by (try simp only [List.map_toArray, List.map_cons, List.map_nil]); first | done | rfl) ?_; (refine (kept_calls A_x Ab c_x cb _ lb _ H_x.out L_x.out (Kd.C_below CBB.out HB.out) LBB.out (by have := LL.out; omega) (R_room H_x.out)).mono ?_); rintro e w_k ⟨rfl, hb_⟩; refine ⟨_, rfl, ?_⟩; have HB0_ := HB; replace H_x := Aside0.mk (Kd.R_below H_x.out hb_); replace HB := Aside0.mk (below_step HB.out hb_); clear hb_; clear HB0_))
      go_ret
      exact ⟨rfl, HB.out⟩
  · subst h1 h2 h4
    have NPR := Aside0.mk (show pr = List.replicate 61 0 from h3)
    clear h3
    refine region_mem (n := 35) (by kernel_rfl) rfl (fun i => 33 + i) ?hN (fun i j hi_ hj_ h => by have h' : (33 + i) = (33 + j) := h; (repeat' split at h') <;> omega) (fun i hi => by show (33 + i) < _; (repeat' split) <;> (simp; try omega)) ?hdag (fun i u_ w => match i with | 0 => u_ = .agg (pg pf) | 1 => ∃ A c, u_ = .slice A bx.length c ∧ bx.length ≤ c ∧ Kd.C (Kd.int .u8) w A bx.length bx | 2 => u_ = .string (strOfNums bx) | 3 => u_ = .agg (pg pf) | 4 => ∃ A c, u_ = .slice A bx.length c ∧ bx.length ≤ c ∧ Kd.C (Kd.int .u8) w A bx.length bx | 5 => u_ = .string (strOfNums bx) | 6 => u_ = .bool false | 7 => u_ = .bool false | 8 => u_ = .iface 49 (.int .i64 4) | 9 => u_ = .bool false | 10 => u_ = .bool false | 11 => u_ = .bool false | 12 => u_ = .bool false | 13 => u_ = .bool false | 14 => u_ = .bool false | 15 => u_ = .bool false | 16 => u_ = undef | 17 => u_ = undef | 18 => u_ = undef | 19 => u_ = .bool false | 20 => u_ = .bool false | 21 => u_ = .bool false | 22 => u_ = .bool false | 23 => u_ = .bool true | 24 => u_ = .bool true | 25 => u_ = .iface 49 (.int .i64 4) | 26 => u_ = .iface 49 (.int .i64 4) | 27 => u_ = .bool false | 28 => u_ = .bool false | 29 => u_ = .agg (pg pr) | 30 => u_ = .agg (pg pr) | 31 => u_ = .bool false | 32 => u_ = .bool false | 33 => u_ = .bool false | 34 => u_ = .bool false | _ => True) ?hS ?step ?hend
    case hN =>
      intro i o ho
      have hi : i < 35 := (Array.getElem?_eq_some_iff.1 ho).1
      match i, hi, ho with
      | 0, _, ho => simp only [List.getElem?_toArray, List.getElem?_cons_zero, List.getElem?_cons_succ, Option.some.injEq] at ho; subst ho; rfl
      | 1, _, ho => simp only [List.getElem?_toArray, List.getElem?_cons_zero, List.getElem?_cons_succ, Option.some.injEq] at ho; subst ho; rfl
      | 2, _, ho => simp only [List.getElem?_toArray, List.getElem?_cons_zero, List.getElem?_cons_succ, Option.some.injEq] at ho; subst ho; rfl
      | 3, _, ho => simp only [List.getElem?_toArray, List.getElem?_cons_zero, List.getElem?_cons_succ, Option.some.injEq] at ho; subst ho; rfl
      | 4, _, ho => simp only [List.getElem?_toArray, List.getElem?_cons_zero, List.getElem?_cons_succ, Option.some.injEq] at ho; subst ho; rfl
      | 5, _, ho => simp only [List.getElem?_toArray, List.getElem?_cons_zero, List.getElem?_cons_succ, Option.some.injEq] at ho; subst ho; rfl
      | 6, _, ho => simp only [List.getElem?_toArray, List.getElem?_cons_zero, List.getElem?_cons_succ, Option.some.injEq] at ho; subst ho; rfl
      | 7, _, ho => simp only [List.getElem?_toArray, List.getElem?_cons_zero, List.getElem?_cons_succ, Option.some.injEq] at ho; subst ho; rfl
      | 8, _, ho => simp only [List.getElem?_toArray, List.getElem?_cons_zero, List.getElem?_cons_succ, Option.some.injEq] at ho; subst ho; rfl
      | 9, _, ho => simp only [List.getElem?_toArray, List.getElem?_cons_zero, List.getElem?_cons_succ, Option.some.injEq] at ho; subst ho; rfl
      | 10, _, ho => simp only [List.getElem?_toArray, List.getElem?_cons_zero, List.getElem?_cons_succ, Option.some.injEq] at ho; subst ho; rfl
      | 11, _, ho => simp only [List.getElem?_toArray, List.getElem?_cons_zero, List.getElem?_cons_succ, Option.some.injEq] at ho; subst ho; rfl
      | 12, _, ho => simp only [List.getElem?_toArray, List.getElem?_cons_zero, List.getElem?_cons_succ, Option.some.injEq] at ho; subst ho; rfl
      | 13, _, ho => simp only [List.getElem?_toArray, List.getElem?_cons_zero, List.getElem?_cons_succ, Option.some.injEq] at ho; subst ho; rfl
      | 14, _, ho => simp only [List.getElem?_toArray, List.getElem?_cons_zero, List.getElem?_cons_succ, Option.some.injEq] at ho; subst ho; rfl
      | 15, _, ho => simp only [List.getElem?_toArray, List.getElem?_cons_zero, List.getElem?_cons_succ, Option.some.injEq] at ho; subst ho; rfl
      | 16, _, ho => simp only [List.getElem?_toArray, List.getElem?_cons_zero, List.getElem?_cons_succ, Option.some.injEq] at ho; subst ho; rfl
      | 17, _, ho => simp only [List.getElem?_toArray, List.getElem?_cons_zero, List.getElem?_cons_succ, Option.some.injEq] at ho; subst ho; rfl
      | 18, _, ho => simp only [List.getElem?_toArray, List.getElem?_cons_zero, List.getElem?_cons_succ, Option.some.injEq] at ho; subst ho; rfl
      | 19, _, ho => simp only [List.getElem?_toArray, List.getElem?_cons_zero, List.getElem?_cons_succ, Option.some.injEq] at ho; subst ho; rfl
      | 20, _, ho => simp only [List.getElem?_toArray, List.getElem?_cons_zero, List.getElem?_cons_succ, Option.some.injEq] at ho; subst ho; rfl
      | 21, _, ho => simp only [List.getElem?_toArray, List.getElem?_cons_zero, List.getElem?_cons_succ, Option.some.injEq] at ho; subst ho; rfl
      | 22, _, ho => simp only [List.getElem?_toArray, List.getElem?_cons_zero, List.getElem?_cons_succ, Option.some.injEq] at ho; subst ho; rfl
      | 23, _, ho => simp only [List.getElem?_toArray, List.getElem?_cons_zero, List.getElem?_cons_succ, Option.some.injEq] at ho; subst ho; rfl
      | 24, _, ho => simp only [List.getElem?_toArray, List.getElem?_cons_zero, List.getElem?_cons_succ, Option.some.injEq] at ho; subst ho; rfl
      | 25, _, ho => simp only [List.getElem?_toArray, List.getElem?_cons_zero, List.getElem?_cons_succ, Option.some.injEq] at ho; subst ho; rfl
      | 26, _, ho => simp only [List.getElem?_toArray, List.getElem?_cons_zero, List.getElem?_cons_succ, Option.some.injEq] at ho; subst ho; rfl
      | 27, _, ho => simp only [List.getElem?_toArray, List.getElem?_cons_zero, List.getElem?_cons_succ, Option.some.injEq] at ho; subst ho; rfl
      | 28, _, ho => simp only [List.getElem?_toArray, List.getElem?_cons_zero, List.getElem?_cons_succ, Option.some.injEq] at ho; subst ho; rfl
      | 29, _, ho => simp only [List.getElem?_toArray, List.getElem?_cons_zero, List.getElem?_cons_succ, Option.some.injEq] at ho; subst ho; rfl
      | 30, _, ho => simp only [List.getElem?_toArray, List.getElem?_cons_zero, List.getElem?_cons_succ, Option.some.injEq] at ho; subst ho; rfl
      | 31, _, ho => simp only [List.getElem?_toArray, List.getElem?_cons_zero, List.getElem?_cons_succ, Option.some.injEq] at ho; subst ho; rfl
      | 32, _, ho => simp only [List.getElem?_toArray, List.getElem?_cons_zero, List.getElem?_cons_succ, Option.some.injEq] at ho; subst ho; rfl
      | 33, _, ho => simp only [List.getElem?_toArray, List.getElem?_cons_zero, List.getElem?_cons_succ, Option.some.injEq] at ho; subst ho; rfl
      | 34, _, ho => simp only [List.getElem?_toArray, List.getElem?_cons_zero, List.getElem?_cons_succ, Option.some.injEq] at ho; subst ho; rfl
    case hdag =>
      intro i o ho
      have hi : i < 35 := (Array.getElem?_eq_some_iff.1 ho).1
      match i, hi, ho with
      | 0, _, ho => simp only [List.getElem?_toArray, List.getElem?_cons_zero, List.getElem?_cons_succ, Option.some.injEq] at ho; subst ho; decide
      | 1, _, ho => simp only [List.getElem?_toArray, List.getElem?_cons_zero, List.getElem?_cons_succ, Option.some.injEq] at ho; subst ho; decide
      | 2, _, ho => simp only [List.getElem?_toArray, List.getElem?_cons_zero, List.getElem?_cons_succ, Option.some.injEq] at ho; subst ho; decide
      | 3, _, ho => simp only [List.getElem?_toArray, List.getElem?_cons_zero, List.getElem?_cons_succ, Option.some.injEq] at ho; subst ho; decide
      | 4, _, ho => simp only [List.getElem?_toArray, List.getElem?_cons_zero, List.getElem?_cons_succ, Option.some.injEq] at ho; subst ho; decide
      | 5, _, ho => simp only [List.getElem?_toArray, List.getElem?_cons_zero, List.getElem?_cons_succ, Option.some.injEq] at ho; subst ho; decide
      | 6, _, ho => simp only [List.getElem?_toArray, List.getElem?_cons_zero, List.getElem?_cons_succ, Option.some.injEq] at ho; subst ho; decide
      | 7, _, ho => simp only [List.getElem?_toArray, List.getElem?_cons_zero, List.getElem?_cons_succ, Option.some.injEq] at ho; subst ho; decide
      | 8, _, ho => simp only [List.getElem?_toArray, List.getElem?_cons_zero, List.getElem?_cons_succ, Option.some.injEq] at ho; subst ho; decide
      | 9, _, ho => simp only [List.getElem?_toArray, List.getElem?_cons_zero, List.getElem?_cons_succ, Option.some.injEq] at ho; subst ho; decide
      | 10, _, ho => simp only [List.getElem?_toArray, List.getElem?_cons_zero, List.getElem?_cons_succ, Option.some.injEq] at ho; subst ho; decide
      | 11, _, ho => simp only [List.getElem?_toArray, List.getElem?_cons_zero, List.getElem?_cons_succ, Option.some.injEq] at ho; subst ho; decide
      | 12, _, ho => simp only [List.getElem?_toArray, List.getElem?_cons_zero, List.getElem?_cons_succ, Option.some.injEq] at ho; subst ho; decide
      | 13, _, ho => simp only [List.getElem?_toArray, List.getElem?_cons_zero, List.getElem?_cons_succ, Option.some.injEq] at ho; subst ho; decide
      | 14, _, ho => simp only [List.getElem?_toArray, List.getElem?_cons_zero, List.getElem?_cons_succ, Option.some.injEq] at ho; subst ho; decide
      | 15, _, ho => simp only [List.getElem?_toArray, List.getElem?_cons_zero, List.getElem?_cons_succ, Option.some.injEq] at ho; subst ho; decide
      | 16, _, ho => simp only [List.getElem?_toArray, List.getElem?_cons_zero, List.getElem?_cons_succ, Option.some.injEq] at ho; subst ho; decide
      | 17, _, ho => simp only [List.getElem?_toArray, List.getElem?_cons_zero, List.getElem?_cons_succ, Option.some.injEq] at ho; subst ho; decide
      | 18, _, ho => simp only [List.getElem?_toArray, List.getElem?_cons_zero, List.getElem?_cons_succ, Option.some.injEq] at ho; subst ho; decide
      | 19, _, ho => simp only [List.getElem?_toArray, List.getElem?_cons_zero, List.getElem?_cons_succ, Option.some.injEq] at ho; subst ho; decide
      | 20, _, ho => simp only [List.getElem?_toArray, List.getElem?_cons_zero, List.getElem?_cons_succ, Option.some.injEq] at ho; subst ho; decide
      | 21, _, ho => simp only [List.getElem?_toArray, List.getElem?_cons_zero, List.getElem?_cons_succ, Option.some.injEq] at ho; subst ho; decide
      | 22, _, ho => simp only [List.getElem?_toArray, List.getElem?_cons_zero, List.getElem?_cons_succ, Option.some.injEq] at ho; subst ho; decide
      | 23, _, ho => simp only [List.getElem?_toArray, List.getElem?_cons_zero, List.getElem?_cons_succ, Option.some.injEq] at ho; subst ho; decide
      | 24, _, ho => simp only [List.getElem?_toArray, List.getElem?_cons_zero, List.getElem?_cons_succ, Option.some.injEq] at ho; subst ho; decide
      | 25, _, ho => simp only [List.getElem?_toArray, List.getElem?_cons_zero, List.getElem?_cons_succ, Option.some.injEq] at ho; subst ho; decide
      | 26, _, ho => simp only [List.getElem?_toArray, List.getElem?_cons_zero, List.getElem?_cons_succ, Option.some.injEq] at ho; subst ho; decide
      | 27, _, ho => simp only [List.getElem?_toArray, List.getElem?_cons_zero, List.getElem?_cons_succ, Option.some.injEq] at ho; subst ho; decide
      | 28, _, ho => simp only [List.getElem?_toArray, List.getElem?_cons_zero, List.getElem?_cons_succ, Option.some.injEq] at ho; subst ho; decide
      | 29, _, ho => simp only [List.getElem?_toArray, List.getElem?_cons_zero, List.getElem?_cons_succ, Option.some.injEq] at ho; subst ho; decide
      | 30, _, ho => simp only [List.getElem?_toArray, List.getElem?_cons_zero, List.getElem?_cons_succ, Option.some.injEq] at ho; subst ho; decide
      | 31, _, ho => simp only [List.getElem?_toArray, List.getElem?_cons_zero, List.getElem?_cons_succ, Option.some.injEq] at ho; subst ho; decide
      | 32, _, ho => simp only [List.getElem?_toArray, List.getElem?_cons_zero, List.getElem?_cons_succ, Option.some.injEq] at ho; subst ho; decide
      | 33, _, ho => simp only [List.getElem?_toArray, List.getElem?_cons_zero, List.getElem?_cons_succ, Option.some.injEq] at ho; subst ho; decide
      | 34, _, ho => simp only [List.getElem?_toArray, List.getElem?_cons_zero, List.getElem?_cons_succ, Option.some.injEq] at ho; subst ho; decide
    case hS =>
      intro i u_ w w' h hb
      match i, h with
      | 0, h => exact h
      | 1, ⟨A, c, h1, h2, h3⟩ => exact ⟨A, c, h1, h2, Kd.C_below h3 hb⟩
      | 2, h => exact h
      | 3, h => exact h
      | 4, ⟨A, c, h1, h2, h3⟩ => exact ⟨A, c, h1, h2, Kd.C_below h3 hb⟩
      | 5, h => exact h
      | 6, h => exact h
      | 7, h => exact h
      | 8, h => exact h
      | 9, h => exact h
      | 10, h => exact h
      | 11, h => exact h
      | 12, h => exact h
      | 13, h => exact h
      | 14, h => exact h
      | 15, h => exact h
      | 16, h => exact h
      | 17, h => exact h
      | 18, h => exact h
      | 19, h => exact h
      | 20, h => exact h
      | 21, h => exact h
      | 22, h => exact h
      | 23, h => exact h
      | 24, h => exact h
      | 25, h => exact h
      | 26, h => exact h
      | 27, h => exact h
      | 28, h => exact h
      | 29, h => exact h
      | 30, h => exact h
      | 31, h => exact h
      | 32, h => exact h
      | 33, h => exact h
      | 34, h => exact h
      | _ + 35, _ => trivial
    case step =>
      intro i o a w ho hd hs hf hb hdep
      have hi : i < 35 := (Array.getElem?_eq_some_iff.1 ho).1
      match i, hi, ho with
      | 0, _, ho =>
        simp only [List.getElem?_toArray, List.getElem?_cons_zero, List.getElem?_cons_succ, Option.some.injEq] at ho
        subst ho
        have e7 : a.eval (.tmp 7) = .pointer (some ⟨g_p, 0, none⟩) := ev_of ((hf 7 (fun j hj => by show (33 + j) ≠ 7; (repeat' split) <;> omega)).trans rfl)
        exact reg_value (S := fun u_ w => u_ = .agg (pg pf)) (v := .agg (pg pf)) (w' := w) rfl (run_page_load _ rfl g_p pf e7 (P_p.out.below hb)) rfl (Below.refl _ _)
      | 1, _, ho =>
        simp only [List.getElem?_toArray, List.getElem?_cons_zero, List.getElem?_cons_succ, Option.some.injEq] at ho
        subst ho
        have t33 : a.tmps[33]? = some (.agg (pg pf)) := by obtain ⟨u_, h1, h2⟩ := hdep ⟨0, .data⟩ (by simp) rfl; rw [show u_ = .agg (pg pf) from h2] at h1; exact h1
        have e33 := ev_of t33
        refine reg_call (S := fun u_ w => ∃ A c, u_ = .slice A bx.length c ∧ bx.length ≤ c ∧ Kd.C (Kd.int .u8) w A bx.length bx) rfl (reg_enters Try.func39 (by kernel_rfl) rfl #[.agg (pg pf)] rfl (by simp only [List.map_toArray, List.map_cons, List.map_nil, e33])) ?_
        refine (encode_page pf w IP.out LF.out).mono ?_
        rintro e w' ⟨v0, rfl, ho, hbw⟩
        rw [← NB.out] at ho
        obtain ⟨A, c, he, hl, hC⟩ := Kd.R_reads ho
        exact ⟨_, rfl, ⟨A, c, he, hl, hC⟩, hbw⟩
      | 2, _, ho =>
        simp only [List.getElem?_toArray, List.getElem?_cons_zero, List.getElem?_cons_succ, Option.some.injEq] at ho
        subst ho
        obtain ⟨v1, t34, A1, c1, q1, l1, C1⟩ : ∃ v, a.tmps[34]? = some v ∧ ∃ A c, v = .slice A bx.length c ∧ bx.length ≤ c ∧ Kd.C (Kd.int .u8) w A bx.length bx := hdep ⟨1, .data⟩ (by simp) rfl
        subst q1
        have e34 := ev_of t34
        have hcv := Kd.C_string (P := Try.prog) (A := A1) (c := c1) Try.underlying22 Try.underlying5 Try.underlying9 C1
        exact reg_value (S := fun u_ w => u_ = .string (strOfNums bx)) (v := .string (strOfNums bx)) (w' := w) rfl (by simp only [execOp, e34]; go_simp) rfl (Below.refl _ _)
      | 3, _, ho =>
        simp only [List.getElem?_toArray, List.getElem?_cons_zero, List.getElem?_cons_succ, Option.some.injEq] at ho
        subst ho
        have e7 : a.eval (.tmp 7) = .pointer (some ⟨g_p, 0, none⟩) := ev_of ((hf 7 (fun j hj => by show (33 + j) ≠ 7; (repeat' split) <;> omega)).trans rfl)
        exact reg_value (S := fun u_ w => u_ = .agg (pg pf)) (v := .agg (pg pf)) (w' := w) rfl (run_page_load _ rfl g_p pf e7 (P_p.out.below hb)) rfl (Below.refl _ _)
      | 4, _, ho =>
        simp only [List.getElem?_toArray, List.getElem?_cons_zero, List.getElem?_cons_succ, Option.some.injEq] at ho
        subst ho
        have t36 : a.tmps[36]? = some (.agg (pg pf)) := by obtain ⟨u_, h1, h2⟩ := hdep ⟨3, .data⟩ (by simp) rfl; rw [show u_ = .agg (pg pf) from h2] at h1; exact h1
        have e36 := ev_of t36
        refine reg_call (S := fun u_ w => ∃ A c, u_ = .slice A bx.length c ∧ bx.length ≤ c ∧ Kd.C (Kd.int .u8) w A bx.length bx) rfl (reg_enters Try.func40 (by kernel_rfl) rfl #[.agg (pg pf)] rfl (by simp only [List.map_toArray, List.map_cons, List.map_nil, e36])) ?_
        refine (rencode_page pf w IP.out LF.out).mono ?_
        rintro e w' ⟨v0, rfl, ho, hbw⟩
        rw [← NB.out] at ho
        obtain ⟨A, c, he, hl, hC⟩ := Kd.R_reads ho
        exact ⟨_, rfl, ⟨A, c, he, hl, hC⟩, hbw⟩
      | 5, _, ho =>
        simp only [List.getElem?_toArray, List.getElem?_cons_zero, List.getElem?_cons_succ, Option.some.injEq] at ho
        subst ho
        obtain ⟨v4, t37, A4, c4, q4, l4, C4⟩ : ∃ v, a.tmps[37]? = some v ∧ ∃ A c, v = .slice A bx.length c ∧ bx.length ≤ c ∧ Kd.C (Kd.int .u8) w A bx.length bx := hdep ⟨4, .data⟩ (by simp) rfl
        subst q4
        have e37 := ev_of t37
        have hcv := Kd.C_string (P := Try.prog) (A := A4) (c := c4) Try.underlying22 Try.underlying5 Try.underlying9 C4
        exact reg_value (S := fun u_ w => u_ = .string (strOfNums bx)) (v := .string (strOfNums bx)) (w' := w) rfl (by simp only [execOp, e37]; go_simp) rfl (Below.refl _ _)
      | 6, _, ho =>
        simp only [List.getElem?_toArray, List.getElem?_cons_zero, List.getElem?_cons_succ, Option.some.injEq] at ho
        subst ho
        have t35 : a.tmps[35]? = some (.string (strOfNums bx)) := by obtain ⟨u_, h1, h2⟩ := hdep ⟨2, .data⟩ (by simp) rfl; rw [show u_ = .string (strOfNums bx) from h2] at h1; exact h1
        have e35 := ev_of t35
        have t38 : a.tmps[38]? = some (.string (strOfNums bx)) := by obtain ⟨u_, h1, h2⟩ := hdep ⟨5, .data⟩ (by simp) rfl; rw [show u_ = .string (strOfNums bx) from h2] at h1; exact h1
        have e38 := ev_of t38
        exact reg_value (S := fun u_ w => u_ = .bool false) (v := .bool false) (w' := w) rfl (by simp only [execOp, e35, e38]; go_simp) rfl (Below.refl _ _)
      | 7, _, ho =>
        simp only [List.getElem?_toArray, List.getElem?_cons_zero, List.getElem?_cons_succ, Option.some.injEq] at ho
        subst ho
        have t39 : a.tmps[39]? = some (.bool false) := by obtain ⟨u_, h1, h2⟩ := hdep ⟨6, .data⟩ (by simp) rfl; rw [show u_ = .bool false from h2] at h1; exact h1
        have e39 := ev_of t39
        exact reg_value (S := fun u_ w => u_ = .bool false) (v := .bool false) (w' := w) rfl (by simp only [execOp, e39]; go_simp) rfl (Below.refl _ _)
      | 8, _, ho =>
        simp only [List.getElem?_toArray, List.getElem?_cons_zero, List.getElem?_cons_succ, Option.some.injEq] at ho
        subst ho
        have e10 : a.eval (.tmp 10) = .iface 49 (.int .i64 4) := ev_of ((hf 10 (fun j hj => by show (33 + j) ≠ 10; (repeat' split) <;> omega)).trans rfl)
        have t40 : a.tmps[40]? = some (.bool false) := by obtain ⟨u_, h1, h2⟩ := hdep ⟨7, .guard⟩ (by simp) rfl; rw [show u_ = .bool false from h2] at h1; exact h1
        have e40 := ev_of t40
        exact reg_value (S := fun u_ w => u_ = .iface 49 (.int .i64 4)) (v := .iface 49 (.int .i64 4)) (w' := w) (wanted_of 7 false false true t40 rfl rfl rfl) (by simp only [execOp, e10, e40]; go_simp) rfl (Below.refl _ _)
      | 9, _, ho =>
        simp only [List.getElem?_toArray, List.getElem?_cons_zero, List.getElem?_cons_succ, Option.some.injEq] at ho
        subst ho
        have t41 : a.tmps[41]? = some (.iface 49 (.int .i64 4)) := by obtain ⟨u_, h1, h2⟩ := hdep ⟨8, .data⟩ (by simp) rfl; rw [show u_ = .iface 49 (.int .i64 4) from h2] at h1; exact h1
        have e41 := ev_of t41
        have t40 : a.tmps[40]? = some (.bool false) := by obtain ⟨u_, h1, h2⟩ := hdep ⟨7, .guard⟩ (by simp) rfl; rw [show u_ = .bool false from h2] at h1; exact h1
        have e40 := ev_of t40
        exact reg_value (S := fun u_ w => u_ = .bool false) (v := .bool false) (w' := w) (wanted_of 7 false false true t40 rfl rfl rfl) (by simp only [execOp, e41, e40]; go_simp) rfl (Below.refl _ _)
      | 10, _, ho =>
        simp only [List.getElem?_toArray, List.getElem?_cons_zero, List.getElem?_cons_succ, Option.some.injEq] at ho
        subst ho
        have e12 : a.eval (.tmp 12) = .bool false := ev_of ((hf 12 (fun j hj => by show (33 + j) ≠ 12; (repeat' split) <;> omega)).trans rfl)
        have t40 : a.tmps[40]? = some (.bool false) := by obtain ⟨u_, h1, h2⟩ := hdep ⟨7, .guard⟩ (by simp) rfl; rw [show u_ = .bool false from h2] at h1; exact h1
        have e40 := ev_of t40
        exact reg_value (S := fun u_ w => u_ = .bool false) (v := .bool false) (w' := w) (wanted_of 7 false false true t40 rfl rfl rfl) (by simp only [execOp, e12, e40]; go_simp) rfl (Below.refl _ _)
      | 11, _, ho =>
        simp only [List.getElem?_toArray, List.getElem?_cons_zero, List.getElem?_cons_succ, Option.some.injEq] at ho
        subst ho
        have t42 : a.tmps[42]? = some (.bool false) := by obtain ⟨u_, h1, h2⟩ := hdep ⟨9, .data⟩ (by simp) rfl; rw [show u_ = .bool false from h2] at h1; exact h1
        have e42 := ev_of t42
        have t43 : a.tmps[43]? = some (.bool false) := by obtain ⟨u_, h1, h2⟩ := hdep ⟨10, .data⟩ (by simp) rfl; rw [show u_ = .bool false from h2] at h1; exact h1
        have e43 := ev_of t43
        have t40 : a.tmps[40]? = some (.bool false) := by obtain ⟨u_, h1, h2⟩ := hdep ⟨7, .guard⟩ (by simp) rfl; rw [show u_ = .bool false from h2] at h1; exact h1
        have e40 := ev_of t40
        exact reg_value (S := fun u_ w => u_ = .bool false) (v := .bool false) (w' := w) (wanted_of 7 false false true t40 rfl rfl rfl) (by simp only [execOp, e42, e43, e40]; go_simp) rfl (Below.refl _ _)
      | 12, _, ho =>
        simp only [List.getElem?_toArray, List.getElem?_cons_zero, List.getElem?_cons_succ, Option.some.injEq] at ho
        subst ho
        have t40 : a.tmps[40]? = some (.bool false) := by obtain ⟨u_, h1, h2⟩ := hdep ⟨7, .data⟩ (by simp) rfl; rw [show u_ = .bool false from h2] at h1; exact h1
        have e40 := ev_of t40
        have t44 : a.tmps[44]? = some (.bool false) := by obtain ⟨u_, h1, h2⟩ := hdep ⟨11, .data⟩ (by simp) rfl; rw [show u_ = .bool false from h2] at h1; exact h1
        have e44 := ev_of t44
        exact reg_value (S := fun u_ w => u_ = .bool false) (v := .bool false) (w' := w) rfl (by simp only [execOp, e40, e44]; go_simp) rfl (Below.refl _ _)
      | 13, _, ho =>
        simp only [List.getElem?_toArray, List.getElem?_cons_zero, List.getElem?_cons_succ, Option.some.injEq] at ho
        subst ho
        have t45 : a.tmps[45]? = some (.bool false) := by obtain ⟨u_, h1, h2⟩ := hdep ⟨12, .data⟩ (by simp) rfl; rw [show u_ = .bool false from h2] at h1; exact h1
        have e45 := ev_of t45
        exact reg_value (S := fun u_ w => u_ = .bool false) (v := .bool false) (w' := w) rfl (by simp only [execOp, e45]; go_simp) rfl (Below.refl _ _)
      | 14, _, ho =>
        simp only [List.getElem?_toArray, List.getElem?_cons_zero, List.getElem?_cons_succ, Option.some.injEq] at ho
        subst ho
        have e12 : a.eval (.tmp 12) = .bool false := ev_of ((hf 12 (fun j hj => by show (33 + j) ≠ 12; (repeat' split) <;> omega)).trans rfl)
        have t46 : a.tmps[46]? = some (.bool false) := by obtain ⟨u_, h1, h2⟩ := hdep ⟨13, .guard⟩ (by simp) rfl; rw [show u_ = .bool false from h2] at h1; exact h1
        have e46 := ev_of t46
        exact reg_value (S := fun u_ w => u_ = .bool false) (v := .bool false) (w' := w) (wanted_of 13 false false true t46 rfl rfl rfl) (by simp only [execOp, e12, e46]; go_simp) rfl (Below.refl _ _)
      | 15, _, ho =>
        simp only [List.getElem?_toArray, List.getElem?_cons_zero, List.getElem?_cons_succ, Option.some.injEq] at ho
        subst ho
        have t47 : a.tmps[47]? = some (.bool false) := by obtain ⟨u_, h1, h2⟩ := hdep ⟨14, .data⟩ (by simp) rfl; rw [show u_ = .bool false from h2] at h1; exact h1
        have e47 := ev_of t47
        have t46 : a.tmps[46]? = some (.bool false) := by obtain ⟨u_, h1, h2⟩ := hdep ⟨13, .guard⟩ (by simp) rfl; rw [show u_ = .bool false from h2] at h1; exact h1
        have e46 := ev_of t46
        exact reg_value (S := fun u_ w => u_ = .bool false) (v := .bool false) (w' := w) (wanted_of 13 false false true t46 rfl rfl rfl) (by simp only [execOp, e47, e46]; go_simp) rfl (Below.refl _ _)
      | 16, _, ho =>
        simp only [List.getElem?_toArray, List.getElem?_cons_zero, List.getElem?_cons_succ, Option.some.injEq] at ho
        subst ho
        have t48 : a.tmps[48]? = some (.bool false) := by obtain ⟨u_, h1, h2⟩ := hdep ⟨15, .guard⟩ (by simp) rfl; rw [show u_ = .bool false from h2] at h1; exact h1
        have e48 := ev_of t48
        exact reg_skip (S := fun u_ w => u_ = undef) (wanted_of 15 true false false t48 rfl rfl rfl) rfl
      | 17, _, ho =>
        simp only [List.getElem?_toArray, List.getElem?_cons_zero, List.getElem?_cons_succ, Option.some.injEq] at ho
        subst ho
        have t48 : a.tmps[48]? = some (.bool false) := by obtain ⟨u_, h1, h2⟩ := hdep ⟨15, .guard⟩ (by simp) rfl; rw [show u_ = .bool false from h2] at h1; exact h1
        have e48 := ev_of t48
        exact reg_skip (S := fun u_ w => u_ = undef) (wanted_of 15 true false false t48 rfl rfl rfl) rfl
      | 18, _, ho =>
        simp only [List.getElem?_toArray, List.getElem?_cons_zero, List.getElem?_cons_succ, Option.some.injEq] at ho
        subst ho
        have t48 : a.tmps[48]? = some (.bool false) := by obtain ⟨u_, h1, h2⟩ := hdep ⟨15, .guard⟩ (by simp) rfl; rw [show u_ = .bool false from h2] at h1; exact h1
        have e48 := ev_of t48
        exact reg_skip (S := fun u_ w => u_ = undef) (wanted_of 15 true false false t48 rfl rfl rfl) rfl
      | 19, _, ho =>
        simp only [List.getElem?_toArray, List.getElem?_cons_zero, List.getElem?_cons_succ, Option.some.injEq] at ho
        subst ho
        have t48 : a.tmps[48]? = some (.bool false) := by obtain ⟨u_, h1, h2⟩ := hdep ⟨15, .data⟩ (by simp) rfl; rw [show u_ = .bool false from h2] at h1; exact h1
        have e48 := ev_of t48
        have t51 : a.tmps[51]? = some (undef) := by obtain ⟨u_, h1, h2⟩ := hdep ⟨18, .data⟩ (by simp) rfl; rw [show u_ = undef from h2] at h1; exact h1
        have e51 := ev_of t51
        have t46 : a.tmps[46]? = some (.bool false) := by obtain ⟨u_, h1, h2⟩ := hdep ⟨13, .guard⟩ (by simp) rfl; rw [show u_ = .bool false from h2] at h1; exact h1
        have e46 := ev_of t46
        exact reg_value (S := fun u_ w => u_ = .bool false) (v := .bool false) (w' := w) (wanted_of 13 false false true t46 rfl rfl rfl) (by simp only [execOp, e48, e51, e46]; go_simp) rfl (Below.refl _ _)
      | 20, _, ho =>
        simp only [List.getElem?_toArray, List.getElem?_cons_zero, List.getElem?_cons_succ, Option.some.injEq] at ho
        subst ho
        have t46 : a.tmps[46]? = some (.bool false) := by obtain ⟨u_, h1, h2⟩ := hdep ⟨13, .data⟩ (by simp) rfl; rw [show u_ = .bool false from h2] at h1; exact h1
        have e46 := ev_of t46
        have t52 : a.tmps[52]? = some (.bool false) := by obtain ⟨u_, h1, h2⟩ := hdep ⟨19, .data⟩ (by simp) rfl; rw [show u_ = .bool false from h2] at h1; exact h1
        have e52 := ev_of t52
        exact reg_value (S := fun u_ w => u_ = .bool false) (v := .bool false) (w' := w) rfl (by simp only [execOp, e46, e52]; go_simp) rfl (Below.refl _ _)
      | 21, _, ho =>
        simp only [List.getElem?_toArray, List.getElem?_cons_zero, List.getElem?_cons_succ, Option.some.injEq] at ho
        subst ho
        have t53 : a.tmps[53]? = some (.bool false) := by obtain ⟨u_, h1, h2⟩ := hdep ⟨20, .data⟩ (by simp) rfl; rw [show u_ = .bool false from h2] at h1; exact h1
        have e53 := ev_of t53
        exact reg_value (S := fun u_ w => u_ = .bool false) (v := .bool false) (w' := w) rfl (by simp only [execOp, e53]; go_simp) rfl (Below.refl _ _)
      | 22, _, ho =>
        simp only [List.getElem?_toArray, List.getElem?_cons_zero, List.getElem?_cons_succ, Option.some.injEq] at ho
        subst ho
        have e12 : a.eval (.tmp 12) = .bool false := ev_of ((hf 12 (fun j hj => by show (33 + j) ≠ 12; (repeat' split) <;> omega)).trans rfl)
        have t54 : a.tmps[54]? = some (.bool false) := by obtain ⟨u_, h1, h2⟩ := hdep ⟨21, .guard⟩ (by simp) rfl; rw [show u_ = .bool false from h2] at h1; exact h1
        have e54 := ev_of t54
        exact reg_value (S := fun u_ w => u_ = .bool false) (v := .bool false) (w' := w) (wanted_of 21 false false true t54 rfl rfl rfl) (by simp only [execOp, e12, e54]; go_simp) rfl (Below.refl _ _)
      | 23, _, ho =>
        simp only [List.getElem?_toArray, List.getElem?_cons_zero, List.getElem?_cons_succ, Option.some.injEq] at ho
        subst ho
        have t55 : a.tmps[55]? = some (.bool false) := by obtain ⟨u_, h1, h2⟩ := hdep ⟨22, .data⟩ (by simp) rfl; rw [show u_ = .bool false from h2] at h1; exact h1
        have e55 := ev_of t55
        have t54 : a.tmps[54]? = some (.bool false) := by obtain ⟨u_, h1, h2⟩ := hdep ⟨21, .guard⟩ (by simp) rfl; rw [show u_ = .bool false from h2] at h1; exact h1
        have e54 := ev_of t54
        exact reg_value (S := fun u_ w => u_ = .bool true) (v := .bool true) (w' := w) (wanted_of 21 false false true t54 rfl rfl rfl) (by simp only [execOp, e55, e54]; go_simp) rfl (Below.refl _ _)
      | 24, _, ho =>
        simp only [List.getElem?_toArray, List.getElem?_cons_zero, List.getElem?_cons_succ, Option.some.injEq] at ho
        subst ho
        have t56 : a.tmps[56]? = some (.bool true) := by obtain ⟨u_, h1, h2⟩ := hdep ⟨23, .data⟩ (by simp) rfl; rw [show u_ = .bool true from h2] at h1; exact h1
        have e56 := ev_of t56
        have t54 : a.tmps[54]? = some (.bool false) := by obtain ⟨u_, h1, h2⟩ := hdep ⟨21, .guard⟩ (by simp) rfl; rw [show u_ = .bool false from h2] at h1; exact h1
        have e54 := ev_of t54
        exact reg_value (S := fun u_ w => u_ = .bool true) (v := .bool true) (w' := w) (wanted_of 21 false false true t54 rfl rfl rfl) (by simp only [execOp, e56, e54]; go_simp) rfl (Below.refl _ _)
      | 25, _, ho =>
        simp only [List.getElem?_toArray, List.getElem?_cons_zero, List.getElem?_cons_succ, Option.some.injEq] at ho
        subst ho
        have e10 : a.eval (.tmp 10) = .iface 49 (.int .i64 4) := ev_of ((hf 10 (fun j hj => by show (33 + j) ≠ 10; (repeat' split) <;> omega)).trans rfl)
        have t57 : a.tmps[57]? = some (.bool true) := by obtain ⟨u_, h1, h2⟩ := hdep ⟨24, .guard⟩ (by simp) rfl; rw [show u_ = .bool true from h2] at h1; exact h1
        have e57 := ev_of t57
        exact reg_value (S := fun u_ w => u_ = .iface 49 (.int .i64 4)) (v := .iface 49 (.int .i64 4)) (w' := w) (wanted_of 24 true true true t57 rfl rfl rfl) (by simp only [execOp, e10, e57]; go_simp) rfl (Below.refl _ _)
      | 26, _, ho =>
        simp only [List.getElem?_toArray, List.getElem?_cons_zero, List.getElem?_cons_succ, Option.some.injEq] at ho
        subst ho
        have t57 : a.tmps[57]? = some (.bool true) := by obtain ⟨u_, h1, h2⟩ := hdep ⟨24, .guard⟩ (by simp) rfl; rw [show u_ = .bool true from h2] at h1; exact h1
        have e57 := ev_of t57
        exact reg_value (S := fun u_ w => u_ = .iface 49 (.int .i64 4)) (v := .iface 49 (.int .i64 4)) (w' := w) (wanted_of 24 true true true t57 rfl rfl rfl) (by simp only [execOp, e57]; go_simp) rfl (Below.refl _ _)
      | 27, _, ho =>
        simp only [List.getElem?_toArray, List.getElem?_cons_zero, List.getElem?_cons_succ, Option.some.injEq] at ho
        subst ho
        have t58 : a.tmps[58]? = some (.iface 49 (.int .i64 4)) := by obtain ⟨u_, h1, h2⟩ := hdep ⟨25, .data⟩ (by simp) rfl; rw [show u_ = .iface 49 (.int .i64 4) from h2] at h1; exact h1
        have e58 := ev_of t58
        have t59 : a.tmps[59]? = some (.iface 49 (.int .i64 4)) := by obtain ⟨u_, h1, h2⟩ := hdep ⟨26, .data⟩ (by simp) rfl; rw [show u_ = .iface 49 (.int .i64 4) from h2] at h1; exact h1
        have e59 := ev_of t59
        have t57 : a.tmps[57]? = some (.bool true) := by obtain ⟨u_, h1, h2⟩ := hdep ⟨24, .guard⟩ (by simp) rfl; rw [show u_ = .bool true from h2] at h1; exact h1
        have e57 := ev_of t57
        exact reg_value (S := fun u_ w => u_ = .bool false) (v := .bool false) (w' := w) (wanted_of 24 true true true t57 rfl rfl rfl) (by simp only [execOp, e58, e59, e57]; go_simp) rfl (Below.refl _ _)
      | 28, _, ho =>
        simp only [List.getElem?_toArray, List.getElem?_cons_zero, List.getElem?_cons_succ, Option.some.injEq] at ho
        subst ho
        have t60 : a.tmps[60]? = some (.bool false) := by obtain ⟨u_, h1, h2⟩ := hdep ⟨27, .data⟩ (by simp) rfl; rw [show u_ = .bool false from h2] at h1; exact h1
        have e60 := ev_of t60
        have t57 : a.tmps[57]? = some (.bool true) := by obtain ⟨u_, h1, h2⟩ := hdep ⟨24, .guard⟩ (by simp) rfl; rw [show u_ = .bool true from h2] at h1; exact h1
        have e57 := ev_of t57
        exact reg_value (S := fun u_ w => u_ = .bool false) (v := .bool false) (w' := w) (wanted_of 24 true true true t57 rfl rfl rfl) (by simp only [execOp, e60, e57]; go_simp) rfl (Below.refl _ _)
      | 29, _, ho =>
        simp only [List.getElem?_toArray, List.getElem?_cons_zero, List.getElem?_cons_succ, Option.some.injEq] at ho
        subst ho
        have e9 : a.eval (.tmp 9) = .pointer (some ⟨g_q, 0, none⟩) := ev_of ((hf 9 (fun j hj => by show (33 + j) ≠ 9; (repeat' split) <;> omega)).trans rfl)
        have t61 : a.tmps[61]? = some (.bool false) := by obtain ⟨u_, h1, h2⟩ := hdep ⟨28, .guard⟩ (by simp) rfl; rw [show u_ = .bool false from h2] at h1; exact h1
        have e61 := ev_of t61
        exact reg_value (S := fun u_ w => u_ = .agg (pg pr)) (v := .agg (pg pr)) (w' := w) (wanted_of 28 false false true t61 rfl rfl rfl) (run_page_load _ rfl g_q pr e9 (P_q.out.below hb)) rfl (Below.refl _ _)
      | 30, _, ho =>
        simp only [List.getElem?_toArray, List.getElem?_cons_zero, List.getElem?_cons_succ, Option.some.injEq] at ho
        subst ho
        have t61 : a.tmps[61]? = some (.bool false) := by obtain ⟨u_, h1, h2⟩ := hdep ⟨28, .guard⟩ (by simp) rfl; rw [show u_ = .bool false from h2] at h1; exact h1
        have e61 := ev_of t61
        exact reg_value (S := fun u_ w => u_ = .agg (pg pr)) (v := .agg (pg pr)) (w' := w) (wanted_of 28 false false true t61 rfl rfl rfl) (run_page_blank rfl pr NPR.out) rfl (Below.refl _ _)
      | 31, _, ho =>
        simp only [List.getElem?_toArray, List.getElem?_cons_zero, List.getElem?_cons_succ, Option.some.injEq] at ho
        subst ho
        have t62 : a.tmps[62]? = some (.agg (pg pr)) := by obtain ⟨u_, h1, h2⟩ := hdep ⟨29, .data⟩ (by simp) rfl; rw [show u_ = .agg (pg pr) from h2] at h1; exact h1
        have e62 := ev_of t62
        have t63 : a.tmps[63]? = some (.agg (pg pr)) := by obtain ⟨u_, h1, h2⟩ := hdep ⟨30, .data⟩ (by simp) rfl; rw [show u_ = .agg (pg pr) from h2] at h1; exact h1
        have e63 := ev_of t63
        have t61 : a.tmps[61]? = some (.bool false) := by obtain ⟨u_, h1, h2⟩ := hdep ⟨28, .guard⟩ (by simp) rfl; rw [show u_ = .bool false from h2] at h1; exact h1
        have e61 := ev_of t61
        exact reg_value (S := fun u_ w => u_ = .bool false) (v := .bool (!true)) (w' := w) (wanted_of 28 false false true t61 rfl rfl rfl) (run_page_neq _ _ rfl pr pr e62 e63 LPR.out LPR.out true (decide_eq_true rfl)) rfl (Below.refl _ _)
      | 32, _, ho =>
        simp only [List.getElem?_toArray, List.getElem?_cons_zero, List.getElem?_cons_succ, Option.some.injEq] at ho
        subst ho
        have t61 : a.tmps[61]? = some (.bool false) := by obtain ⟨u_, h1, h2⟩ := hdep ⟨28, .data⟩ (by simp) rfl; rw [show u_ = .bool false from h2] at h1; exact h1
        have e61 := ev_of t61
        have t64 : a.tmps[64]? = some (.bool false) := by obtain ⟨u_, h1, h2⟩ := hdep ⟨31, .data⟩ (by simp) rfl; rw [show u_ = .bool false from h2] at h1; exact h1
        have e64 := ev_of t64
        have t57 : a.tmps[57]? = some (.bool true) := by obtain ⟨u_, h1, h2⟩ := hdep ⟨24, .guard⟩ (by simp) rfl; rw [show u_ = .bool true from h2] at h1; exact h1
        have e57 := ev_of t57
        exact reg_value (S := fun u_ w => u_ = .bool false) (v := .bool false) (w' := w) (wanted_of 24 true true true t57 rfl rfl rfl) (by simp only [execOp, e61, e64, e57]; go_simp) rfl (Below.refl _ _)
      | 33, _, ho =>
        simp only [List.getElem?_toArray, List.getElem?_cons_zero, List.getElem?_cons_succ, Option.some.injEq] at ho
        subst ho
        have t57 : a.tmps[57]? = some (.bool true) := by obtain ⟨u_, h1, h2⟩ := hdep ⟨24, .data⟩ (by simp) rfl; rw [show u_ = .bool true from h2] at h1; exact h1
        have e57 := ev_of t57
        have t65 : a.tmps[65]? = some (.bool false) := by obtain ⟨u_, h1, h2⟩ := hdep ⟨32, .data⟩ (by simp) rfl; rw [show u_ = .bool false from h2] at h1; exact h1
        have e65 := ev_of t65
        have t54 : a.tmps[54]? = some (.bool false) := by obtain ⟨u_, h1, h2⟩ := hdep ⟨21, .guard⟩ (by simp) rfl; rw [show u_ = .bool false from h2] at h1; exact h1
        have e54 := ev_of t54
        exact reg_value (S := fun u_ w => u_ = .bool false) (v := .bool false) (w' := w) (wanted_of 21 false false true t54 rfl rfl rfl) (by simp only [execOp, e57, e65, e54]; go_simp) rfl (Below.refl _ _)
      | 34, _, ho =>
        simp only [List.getElem?_toArray, List.getElem?_cons_zero, List.getElem?_cons_succ, Option.some.injEq] at ho
        subst ho
        have t54 : a.tmps[54]? = some (.bool false) := by obtain ⟨u_, h1, h2⟩ := hdep ⟨21, .data⟩ (by simp) rfl; rw [show u_ = .bool false from h2] at h1; exact h1
        have e54 := ev_of t54
        have t66 : a.tmps[66]? = some (.bool false) := by obtain ⟨u_, h1, h2⟩ := hdep ⟨33, .data⟩ (by simp) rfl; rw [show u_ = .bool false from h2] at h1; exact h1
        have e66 := ev_of t66
        exact reg_value (S := fun u_ w => u_ = .bool false) (v := .bool false) (w' := w) rfl (by simp only [execOp, e54, e66]; go_simp) rfl (Below.refl _ _)
    case hend =>
      intro vs w hb hall
      have s0 : vs 0 = .agg (pg pf) := hall 0 (by omega)
      obtain ⟨A1, c1, s1, l1, C1⟩ : ∃ A c, vs 1 = .slice A bx.length c ∧ bx.length ≤ c ∧ Kd.C (Kd.int .u8) w A bx.length bx := hall 1 (by omega)
      have s2 : vs 2 = .string (strOfNums bx) := hall 2 (by omega)
      have s3 : vs 3 = .agg (pg pf) := hall 3 (by omega)
      obtain ⟨A4, c4, s4, l4, C4⟩ : ∃ A c, vs 4 = .slice A bx.length c ∧ bx.length ≤ c ∧ Kd.C (Kd.int .u8) w A bx.length bx := hall 4 (by omega)
      have s5 : vs 5 = .string (strOfNums bx) := hall 5 (by omega)
      have s6 : vs 6 = .bool false := hall 6 (by omega)
      have s7 : vs 7 = .bool false := hall 7 (by omega)
      have s8 : vs 8 = .iface 49 (.int .i64 4) := hall 8 (by omega)
      have s9 : vs 9 = .bool false := hall 9 (by omega)
      have s10 : vs 10 = .bool false := hall 10 (by omega)
      have s11 : vs 11 = .bool false := hall 11 (by omega)
      have s12 : vs 12 = .bool false := hall 12 (by omega)
      have s13 : vs 13 = .bool false := hall 13 (by omega)
      have s14 : vs 14 = .bool false := hall 14 (by omega)
      have s15 : vs 15 = .bool false := hall 15 (by omega)
      have s16 : vs 16 = undef := hall 16 (by omega)
      have s17 : vs 17 = undef := hall 17 (by omega)
      have s18 : vs 18 = undef := hall 18 (by omega)
      have s19 : vs 19 = .bool false := hall 19 (by omega)
      have s20 : vs 20 = .bool false := hall 20 (by omega)
      have s21 : vs 21 = .bool false := hall 21 (by omega)
      have s22 : vs 22 = .bool false := hall 22 (by omega)
      have s23 : vs 23 = .bool true := hall 23 (by omega)
      have s24 : vs 24 = .bool true := hall 24 (by omega)
      have s25 : vs 25 = .iface 49 (.int .i64 4) := hall 25 (by omega)
      have s26 : vs 26 = .iface 49 (.int .i64 4) := hall 26 (by omega)
      have s27 : vs 27 = .bool false := hall 27 (by omega)
      have s28 : vs 28 = .bool false := hall 28 (by omega)
      have s29 : vs 29 = .agg (pg pr) := hall 29 (by omega)
      have s30 : vs 30 = .agg (pg pr) := hall 30 (by omega)
      have s31 : vs 31 = .bool false := hall 31 (by omega)
      have s32 : vs 32 = .bool false := hall 32 (by omega)
      have s33 : vs 33 = .bool false := hall 33 (by omega)
      have s34 : vs 34 = .bool false := hall 34 (by omega)
      simp only [fillN, Act.put, reduceIte, Nat.reduceEqDiff, Nat.reduceAdd, s0, s1, s2, s3, s4, s5, s6, s7, s8, s9, s10, s11, s12, s13, s14, s15, s16, s17, s18, s19, s20, s21, s22, s23, s24, s25, s26, s27, s28, s29, s30, s31, s32, s33, s34, List.setIfInBounds_toArray, List.set_cons_zero, List.set_cons_succ, Nat.reduceAdd]
      replace H_x := Aside0.mk (Kd.R_below H_x.out hb)
      replace HB := Aside0.mk (below_step HB.out hb)
      clear hall hb
      go_wp2_with (first | ((with_reducible refine gate_callee (f := 23) rfl ?_); (with_reducible refine gate_dst (N := 70) rfl ?_); (try (refine gate_guard (by rfl) ?_; dsimp only)); refine goesL_ (some 70) rfl rfl Try.func23 (by kernel_rfl) rfl #[.slice A_x lb.length c_x, .slice Ab lb.length cb] rfl (by (try simp only [List.map_toArray, List.map_cons, List.map_nil]); first | done | rfl) ?_; (refine (kept_calls A_x Ab c_x cb _ lb _ H_x.out L_x.out (Kd.C_below CBB.out HB.out) LBB.out (by have := LL.out; omega) (R_room H_x.out)).mono ?_); rintro e w_k ⟨rfl, hb_⟩; refine ⟨_, rfl, ?_⟩; have HB0_ := HB; replace H_x := Aside0.mk (Kd.R_below H_x.out hb_); replace HB := Aside0.mk (below_step HB.out hb_); clear hb_; clear HB0_))
      go_ret
      exact ⟨rfl, HB.out⟩
set_option maxHeartbeats 16000000 in
set_option maxRecDepth 100000 in
theorem forms_many (lsn : Int) (A Ab : Option Addr) (c cb : Nat) (ln lb : List Int) (w : World) (hx : 16384 < lb.length) :
    Calls Try.prog 9 #[.int .i64 lsn, .slice A ln.length c, .slice Ab lb.length cb] w fun e w' => e = .returned (.bool true) ∧ Below w.heap.size w w' := by
  have HB := Aside0.mk (Below.refl w.heap.size w)
  have c1 : decide ((lb.length : Int) > 16384) = true := decide_eq_true (by omega)
  clear hx
  go_enter Try.func9, Try.ntmps9
  go_wp2_with ((with_reducible refine gate_callee (f := 35) rfl ?_); (with_reducible refine gate_dst (N := 13) rfl ?_); refine goesL_ (some 13) rfl rfl Try.func35 (by kernel_rfl) rfl #[] rfl (by (try simp only [List.map_toArray, List.map_cons, List.map_nil]); first | done | rfl) ?_; (refine (alive5_calls _).mono ?_); rintro e w_al ⟨rfl, hb_⟩; refine ⟨_, rfl, ?_⟩; replace HB := Aside0.mk (below_step HB.out hb_); clear hb_)
  go_ret
  exact ⟨rfl, HB.out⟩
theorem forms_true (lsn : Int) (A Ab : Option Addr) (c cb : Nat) (ln lb : List Int) (w : World) (hA : Kd.C (Kd.int .i64) w A ln.length ln) (hB : Kd.C (Kd.int .u8) w Ab lb.length lb) (hca : ln.length ≤ c) (hcb : lb.length ≤ cb)
    (sa : ln.length ≤ 4611686018427387904) (hn : I64 lsn) (hI : ∀ x ∈ ln, I64 x) (hbl : Bytes lb) :
    Calls Try.prog 9 #[.int .i64 lsn, .slice A ln.length c, .slice Ab lb.length cb] w fun e w' => e = .returned (.bool true) ∧ Below w.heap.size w w' := by
  by_cases hx : 16384 < lb.length
  · exact forms_many lsn A Ab c cb ln lb w hx
  · exact forms_few lsn A Ab c cb ln lb w hA hB hca hcb sa hn hI hbl hx
end Go.Proofs.Ytbphmpncajfaiaa.K
/- Words for the rows: a slice of whole numbers that came in, opened. -/
namespace Go.Proofs.Ytbphmpncajfaiaa.K
open Go.ChangeShapes Go.WideShapes Go.ChangeAt Go.RowKit Go.Joins Go.Proofs.Ytbphmpncajfaiaa.M Go.Proofs.YtbphmpncajfaiaaW.PrintWords Go.Proofs.YtbphmpncajfaiaaW.PrintLast Go.Proofs.YtbphmpncajfaiaaW.PrintMore
theorem own : ownKnob Try.prog.godebug = none := by kernel_rfl
theorem laidOut : laidOutB Try.prog = true := by kernel_rfl
theorem open_row {H : Type} {enc : TypeId × Value → H} {P : Program} {W : World} {t e : TypeId} {k : IntKind} {fuel : Nat} {cs : List Value} {x : DataW H × List MemPlace} {ts : List TypeId} {ds : List (DataW H)} {j : Nat} (hu : P.underlying t = some (.slice e)) (he : P.underlying e = some (.int k)) (hc : P.cellsOf e = 1)
    (h : DataW.trod enc P W 0 (fun _ => true) true fuel t cs = some x) (hsz : (DataW.weightsEach P ts ds).all (· ≤ reachBytes) = true) (ht : ts[j]? = some t) (hd : ds[j]? = some x.1) {B : Nat} (hB : P.bytesOf e = B) :
    ∃ (A : Option Addr) (l : List Int) (c : Nat), cs = [.slice A l.length c] ∧ l.length ≤ c ∧ (Kd.int k).C W A l.length l ∧ (∀ n ∈ l, (Lit.int k n).wf = true) ∧ l.length * B ≤ 140737488351232 := by
  rcases open_ints hu he hc h with ⟨rfl, rfl⟩ | ⟨a, len, cap, zs, rfl, _, hl, hm, hz, hx, hcell, hwz⟩
  · exact ⟨none, [], 0, rfl, Nat.le_refl _, Kd.C_nil _ _, (fun n hn => by cases hn), by simp⟩
  · have hz' : zs.length = cap := by simpa using hz
    obtain ⟨l, hlen, hr, hm', hw', hc'⟩ := ReadsInt.ofRowC (k := k) (w := W) (a := some a) (len := len) (cap := cap) (zs := zs) (.inr ⟨a, rfl, hl, hm, hz', hcell, hwz⟩)
    subst hlen
    have hsize := sized_slice hsz ht (elems := lits k (zs.take l.length)) (spare := lits k (zs.drop l.length)) (by rw [hd, hx]) hu
    rw [hB] at hsize
    have h1 : (lits (H := H) k (zs.take l.length)).length + (lits (H := H) k (zs.drop l.length)).length = zs.length := by
      simp [lits]
      omega
    rw [h1] at hsize
    exact ⟨some a, l, cap, rfl, hc', Kd.C_of_reads (d := (0 : Int)) (h1 := fun _ => rfl) hr, hw', Nat.le_trans (Nat.mul_le_mul_right _ (by omega)) hsize⟩
theorem bytes_wf {l : List Int} (h : ∀ n ∈ l, (Lit.int .u8 n).wf = true) : Bytes l := fun x hx => by
  have := h x hx
  simp [Lit.wf, IntKind.min, IntKind.max, IntKind.signed, IntKind.bits] at this
  omega
theorem byte_wf {x : Int} (h : (Lit.int .u8 x).wf = true) : 0 ≤ x ∧ x < 256 := by
  simp [Lit.wf, IntKind.min, IntKind.max, IntKind.signed, IntKind.bits] at h
  omega
theorem int_wf {x : Int} (h : (Lit.int .i64 x).wf = true) : -9223372036854775808 ≤ x ∧ x ≤ 9223372036854775807 := by
  simp [Lit.wf, IntKind.min, IntKind.max, IntKind.signed, IntKind.bits] at h
  omega
theorem places_lt {H : Type} {enc : TypeId × Value → H} {P : Program} {W : World} {base : Nat} {spare : Nat → Bool} {held : Bool} {t : TypeId} {v : Value} {d : DataW H} {p : List MemPlace} (h : DataW.Trod enc P W base spare held t v d p) : ∀ x ∈ p, x.block < W.heap.size := by
  obtain ⟨m, hm⟩ := h
  exact DataW.trod_lt m _ _ _ hm
end Go.Proofs.Ytbphmpncajfaiaa.K
/- For every input PageForms answers true: what sector each page has, and which sectors are a page's. -/
namespace Go.Proofs.Ytbphmpncajfaiaa.pageForms
open Go.ChangeShapes Go.WideShapes Go.ChangeAt Go.RowKit Go.Joins Go.Proofs.Ytbphmpncajfaiaa.K Go.Proofs.Ytbphmpncajfaiaa.M
set_option linter.unusedVariables false
set_option linter.unusedSimpArgs false
set_option maxRecDepth 100000 in
theorem lifted (os : Os) (started : os.Started) (H : Type) (enc : TypeId × Value → H) :
    ReturnsInHanded {} Try.checked os 9 .any (Rows.pageFormsSpec.pre6 enc Try.prog Try.f9 Rows.pageFormsRow.domain false) (Rows.pageFormsSpec.post enc Try.prog Try.f9 false true false false) := by
  refine returnsInHanded_of_change_sized (C := Try.checked) own started (by kernel_rfl) Try.func9
    (ChangeSpec.witness6 (enc := enc) (C := Try.checked) false ⟨#[], #[.int .i64 0, .slice none 0 0, .slice none 0 0], []⟩ 8 (by kernel_rfl) (by kernel_rfl) (by kernel_rfl) (by kernel_rfl)) ?_
  intro W base args ds gs before hval0 hW hcnd hsz0 _
  have hsz : (DataW.weightsEach Try.prog (Try.f9.params.toList ++ Rows.pageFormsSpec.plain.varTypes Try.prog) (ds ++ gs)).all (· ≤ reachBytes) = true := hsz0
  have hval : ∀ (j : Nat) t v, Try.f9.params[j]? = some t → args[j]? = some v → Value.okWide Try.prog W .any base t v := hval0
  have hW' := hW
  obtain ⟨p, q, hA0, hV, rfl, hfz, hnd⟩ := hW
  have hA : DataW.TrodAll enc Try.prog W 0 (fun _ => true) true Try.f9.params.toList args.toList ds p := hA0
  rw [Try.params9] at hA hval hsz
  obtain ⟨v0, vs0, d0, ds0, p0, q0, hargs, rfl, rfl, h0, r0⟩ := trodAll_cons hA
  obtain ⟨v1, vs1, d1, ds1, p1, q1, rfl, rfl, rfl, h1, r1⟩ := trodAll_cons r0
  obtain ⟨v2, vs2, d2, ds2, p2, q2, rfl, rfl, rfl, h2, r2⟩ := trodAll_cons r1
  obtain ⟨rfl, rfl, rfl⟩ := trodAll_nil r2
  obtain rfl : args = #[v0, v1, v2] := by cases args; simp_all
  obtain ⟨rfl, rfl⟩ := trodVars_none hV
  have k0 := h0
  obtain ⟨a0, rfl, rfl, rfl, w0⟩ := open_int Try.underlying3 (hval 0 3 v0 rfl rfl) h0
  have k1 := h1
  obtain ⟨fu1, hf1⟩ := h1
  obtain ⟨A1, l1, c1, hcs1, lc1, hC1, hw1, sz1⟩ := open_row Try.underlying27 Try.underlying3 (by kernel_rfl) hf1 hsz (j := 1) (t := 27) rfl rfl (B := 8) (by kernel_rfl)
  obtain ⟨aa1, ln1, cp1, rfl⟩ := okWide_slice Try.underlying27 (hval 1 27 v1 rfl rfl)
  simp only [Value.cells, List.cons.injEq, and_true, Value.slice.injEq] at hcs1
  obtain ⟨rfl, rfl, rfl⟩ := hcs1
  have k2 := h2
  obtain ⟨fu2, hf2⟩ := h2
  obtain ⟨A2, l2, c2, hcs2, lc2, hC2, hw2, sz2⟩ := open_row Try.underlying22 Try.underlying5 (by kernel_rfl) hf2 hsz (j := 2) (t := 22) rfl rfl (B := 1) (by kernel_rfl)
  obtain ⟨aa2, ln2, cp2, rfl⟩ := okWide_slice Try.underlying22 (hval 2 22 v2 rfl rfl)
  simp only [Value.cells, List.cons.injEq, and_true, Value.slice.injEq] at hcs2
  obtain ⟨rfl, rfl, rfl⟩ := hcs2
  clear hA0 hval0 hsz0
  refine (forms_true a0 aa1 aa2 cp1 cp2 l1 l2 W hC1 hC2 lc1 lc2 (by omega) (int_wf w0) (fun x hx => int_wf (hw1 x hx)) (bytes_wf hw2)).mono fun e W' ⟨he, bel⟩ => ?_
  subst he
  exact ⟨_, rfl, _, _, _, [], _, [], hW', trodAll_mk1 (shut_bool Try.underlying4 _), (trodAll_cons_mk (shut_int Try.underlying3 w0) (trodAll_cons_mk (Below.trod laidOut (by kernel_rfl) (of_decide_eq_true (by kernel_rfl)) k1 bel (places_lt k1)) (trodAll_cons_mk (Below.trod laidOut (by kernel_rfl) (of_decide_eq_true (by kernel_rfl)) k2 bel (places_lt k2)) trodAll_mk0))), rfl, bel.frame _, fun h => by cases h⟩
theorem over : Rows.pageFormsRow.holds Try.pinned (OpenSpec.ofChange Rows.pageFormsSpec) :=
  OpenClaim.holds_of_wide 9 Try.f9 rfl rfl rfl rfl rfl rfl rfl ⟨rfl, rfl, rfl, rfl, rfl⟩ rfl rfl rfl rfl rfl (by kernel_rfl) Try.func9 (by kernel_rfl)
    (of_decide_eq_true (by kernel_rfl)) (by unfold Func.isWrapper; first | (rw [if_pos (by decide +kernel)]; kernel_rfl) | (rw [if_neg (by decide +kernel)]; exact ⟨rfl, rfl⟩))
    (fun os started H enc _ => lifted os started H enc)
theorem proved : Rows.PageFormsSaid := over
#print axioms proved
end Go.Proofs.Ytbphmpncajfaiaa.pageForms
namespace Go.Proofs.Ytbphmpncajfaiaa
/-- The row, under a short name, for the claim. -/
theorem pageForms_holds : Rows.PageFormsSaid := pageForms.proved
end Go.Proofs.Ytbphmpncajfaiaa
