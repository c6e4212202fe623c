/- WireOne's own call: each number has one form. -/
import Derived.Test.YtbphmpncajfaiaaK1
import Derived.Test.YtbphmpncajfaiaaK2
import Derived.Test.YtbphmpncajfaiaaK12
import Derived.Test.YtbphmpncajfaiaaPyx9
import Derived.Test.YtbphmpncajfaiaaM4
import Derived.Test.YtbphmpncajfaiaaM7

namespace Go.Proofs.Ytbphmpncajfaiaa.K
open Go.RowKit Go.Proofs.Ytbphmpncajfaiaa.M Go.Proofs.Ytbphmpncajfaiaa.Py Go.Proofs.YtbphmpncajfaiaaW.PrintWords Go.Proofs.YtbphmpncajfaiaaW.PrintLast Go.Proofs.YtbphmpncajfaiaaW.PrintMore
set_option linter.unusedVariables false
set_option linter.unusedSimpArgs false
theorem str_app (a b : List Int) : strOfNums (a ++ b) = strOfNums a ++ strOfNums b := by
  apply ByteArray.ext
  rw [ByteArray.data_append]
  simp [strOfNums]
set_option maxHeartbeats 8000000 in
set_option maxRecDepth 100000 in
theorem one_large (n : Int) (B : Option Addr) (cb : Nat) (lb : List Int) (w : World) (hB : Kd.C (Kd.int .u8) w B lb.length lb) (hcb : lb.length ≤ cb) (K1 : Nat)
    (h1 : palimpsestlaw02_large.f K1 [lb] = some true) :
    Calls Try.prog 7 #[.slice B lb.length cb, .int .i64 n] w fun e w' => e = .returned (.bool true) ∧ Below w.heap.size w w' := by
  have CB := Aside0.mk hB
  have LB := Aside0.mk hcb
  have HB := Aside0.mk (Below.refl w.heap.size w)
  obtain ⟨y, hy⟩ : ∃ y, y = [lb] := ⟨_, rfl⟩
  have A1 := Aside0.mk (show palimpsestlaw02_large.f K1 y = some true by rw [hy]; exact h1)
  have Ny := Aside0.mk hy
  clear hB hcb hy h1
  go_enter Try.func7, Try.ntmps7
  go_wp2_with (first | ((with_reducible refine gate_callee (f := 16) rfl ?_); (with_reducible refine gate_dst (N := 10) rfl ?_); (try (refine gate_guard (by rfl) ?_; dsimp only)); refine goesL_ (some 10) rfl rfl Try.func16 (by kernel_rfl) rfl #[] rfl (by (try simp only [List.map_toArray, List.map_cons, List.map_nil]); first | done | rfl) ?_; (refine (alive_calls _).mono ?_); rintro e w_al ⟨rfl, hb_⟩; refine ⟨_, rfl, ?_⟩; have HB0_ := HB; replace CB := Aside0.mk (Kd.C_below CB.out hb_); replace HB := Aside0.mk (below_step HB.out hb_); clear hb_; clear HB0_) | ((with_reducible refine gate_dst (N := 13) rfl ?_); (try (refine gate_guard (by rfl) ?_; dsimp only)); refine C_lit (Kd.slice 5 (Kd.int .u8)) 22 ?hg (N := 13) ?hd (xs := [lb]) (inner := [.slice B lb.length cb]) ?hr ?hp (by simp) ?_; (case hd => rfl); (case hg => rfl); (case hr => first | (go_simp; done) | (go_simp; rfl)); (case hp => exact (Reps.one ⟨_, _, rfl, LB.out, CB.out⟩ (Reps.none _ _))); intro w_y A_y c_y hc_ l_y hb_; rw [← Ny.out] at hc_ l_y ⊢; replace CB := Aside0.mk (Kd.C_below CB.out hb_); replace HB := Aside0.mk (below_step HB.out hb_); have C_y := Aside0.mk hc_; have L_y := Aside0.mk l_y; clear hc_ hb_ l_y) | ((with_reducible refine gate_callee (f := 17) rfl ?_); (with_reducible refine gate_dst (N := 14) rfl ?_); (try (refine gate_guard (by rfl) ?_; dsimp only)); refine goesL_ (some 14) rfl rfl Try.func17 (by kernel_rfl) rfl #[.slice A_y y.length c_y] rfl (by (try simp only [List.map_toArray, List.map_cons, List.map_nil]); first | done | rfl) ?_; (refine (palimpsestlaw02_large.calls K1 _ _ y true _ ?side1 ?side2 A1.out).mono ?_); (case side1 => exact C_y.out); (case side2 => exact L_y.out); rintro e w_lg ⟨rfl, ⟨⟨nd_, rfl⟩⟩⟩; refine ⟨_, rfl, ?_⟩; have HB0_ := HB; replace CB := Aside0.mk (Kd.C_below CB.out (pw_below_drewN (Below.refl _ _) nd_)); replace C_y := Aside0.mk (Kd.C_below C_y.out (pw_below_drewN (Below.refl _ _) nd_)); replace HB := Aside0.mk (below_step HB.out (pw_below_drewN (Below.refl _ _) nd_)); clear HB0_))
  go_ret
  exact ⟨rfl, HB.out⟩
set_option maxHeartbeats 8000000 in
set_option maxRecDepth 100000 in
theorem one_num (n : Int) (B : Option Addr) (cb : Nat) (lb : List Int) (w : World) (hB : Kd.C (Kd.int .u8) w B lb.length lb) (hcb : lb.length ≤ cb) (K1 K2 K3 K4 : Nat)
    (h1 : palimpsestlaw02_large.f K1 [lb] = some false) (hlb : lb.length ≤ 131072) (pn : List Int) (h2 : wire_Put.f K2 [] [n] = some pn) (hp0 : 1 ≤ pn.length) (hp1 : pn.length ≤ 10) (hps : (-64 ≤ n ∧ n < 64) ↔ pn.length = 1) (v : Int) (rs : List Int) (h3 : wire_Take.f K3 lb = some (v, rs, none)) (pv : List Int) (h4 : wire_Put.f K4 [] [v] = some pv) (h5 : pv ++ rs = lb) :
    Calls Try.prog 7 #[.slice B lb.length cb, .int .i64 n] w fun e w' => e = .returned (.bool true) ∧ Below w.heap.size w w' := by
  have CB := Aside0.mk hB
  have LB := Aside0.mk hcb
  have HB := Aside0.mk (Below.refl w.heap.size w)
  obtain ⟨y, hy⟩ : ∃ y, y = [lb] := ⟨_, rfl⟩
  obtain ⟨yn, hyn⟩ : ∃ y : List Int, y = [n] := ⟨_, rfl⟩
  have A1 := Aside0.mk (show palimpsestlaw02_large.f K1 y = some false by rw [hy]; exact h1)
  have A2 := Aside0.mk (show wire_Put.f K2 [] yn = some pn by rw [hyn]; exact h2)
  have A3 := Aside0.mk h3
  obtain ⟨yv, hyv⟩ : ∃ y : List Int, y = [v] := ⟨_, rfl⟩
  have Nyv := Aside0.mk hyv
  have A4' := Aside0.mk (show wire_Put.f K4 [] yv = some pv by rw [hyv]; exact h4)
  have Ny := Aside0.mk hy
  have Nyn := Aside0.mk hyn
  have HQ := Aside0.mk (And.intro hp0 (And.intro hp1 (And.intro hps (And.intro h5 hlb))))
  clear hB hcb hy h1 hyn hyv h2 h3 h4 hp0 hp1 hps h5 hlb
  go_enter Try.func7, Try.ntmps7
  go_upto_region 7 with (first | ((with_reducible refine gate_callee (f := 16) rfl ?_); (with_reducible refine gate_dst (N := 10) rfl ?_); (try (refine gate_guard (by rfl) ?_; dsimp only)); refine goesL_ (some 10) rfl rfl Try.func16 (by kernel_rfl) rfl #[] rfl (by (try simp only [List.map_toArray, List.map_cons, List.map_nil]); first | done | rfl) ?_; (refine (alive_calls _).mono ?_); rintro e w_al ⟨rfl, hb_⟩; refine ⟨_, rfl, ?_⟩; have HB0_ := HB; replace CB := Aside0.mk (Kd.C_below CB.out hb_); replace HB := Aside0.mk (below_step HB.out hb_); clear hb_; clear HB0_) | ((with_reducible refine gate_dst (N := 13) rfl ?_); (try (refine gate_guard (by rfl) ?_; dsimp only)); refine C_lit (Kd.slice 5 (Kd.int .u8)) 22 ?hg (N := 13) ?hd (xs := [lb]) (inner := [.slice B lb.length cb]) ?hr ?hp (by simp) ?_; (case hd => rfl); (case hg => rfl); (case hr => first | (go_simp; done) | (go_simp; rfl)); (case hp => exact (Reps.one ⟨_, _, rfl, LB.out, CB.out⟩ (Reps.none _ _))); intro w_y A_y c_y hc_ l_y hb_; rw [← Ny.out] at hc_ l_y ⊢; replace CB := Aside0.mk (Kd.C_below CB.out hb_); replace HB := Aside0.mk (below_step HB.out hb_); have C_y := Aside0.mk hc_; have L_y := Aside0.mk l_y; clear hc_ hb_ l_y) | ((with_reducible refine gate_callee (f := 17) rfl ?_); (with_reducible refine gate_dst (N := 14) rfl ?_); (try (refine gate_guard (by rfl) ?_; dsimp only)); refine goesL_ (some 14) rfl rfl Try.func17 (by kernel_rfl) rfl #[.slice A_y y.length c_y] rfl (by (try simp only [List.map_toArray, List.map_cons, List.map_nil]); first | done | rfl) ?_; (refine (palimpsestlaw02_large.calls K1 _ _ y false _ ?side1 ?side2 A1.out).mono ?_); (case side1 => exact C_y.out); (case side2 => exact L_y.out); rintro e w_lg ⟨rfl, ⟨⟨nd_, rfl⟩⟩⟩; refine ⟨_, rfl, ?_⟩; have HB0_ := HB; replace CB := Aside0.mk (Kd.C_below CB.out (pw_below_drewN (Below.refl _ _) nd_)); replace C_y := Aside0.mk (Kd.C_below C_y.out (pw_below_drewN (Below.refl _ _) nd_)); replace HB := Aside0.mk (below_step HB.out (pw_below_drewN (Below.refl _ _) nd_)); clear HB0_) | ((with_reducible refine gate_dst (N := 16) rfl ?_); (try (refine gate_guard (by rfl) ?_; dsimp only)); refine Kd.R_lit (w0 := (w_y.drewN nd_)) (Kd.int .i64) (w_y.drewN nd_).heap.size 3 ?hg (N := 16) ?hd (xs := ([n] : List Int)) (inner := [.int .i64 n]) (ok := fun _ => True) (okp := fun _ => True) ?hr ?hp (fun _ hk => hk) trivial (Below.refl _ _) (Nat.le_refl _) (by simp) ?_; (case hd => rfl); (case hg => rfl); (case hr => first | (go_simp; done) | (go_simp; rfl)); (case hp => exact (Reps.one (show Kd.M (Kd.int .i64) _ _ _ n [.int .i64 n] from rfl) (Reps.none _ _))); have HB0_ := HB; intro v_n w_n ho_ hb_ hg_ hnew_; rw [← Nyn.out] at ho_; replace CB := Aside0.mk (Kd.C_below CB.out hb_); replace HB := Aside0.mk (below_step HB.out hb_); have H_n := Aside0.mk (Kd.R_lower ho_ (below_size HB0_.out)); clear ho_ hb_ hg_ hnew_ HB0_; obtain ⟨A_n, c_n, e_n⟩ := Kd.R_slice H_n.out; subst e_n) | ((with_reducible refine gate_callee (f := 19) rfl ?_); (with_reducible refine gate_dst (N := 17) rfl ?_); (try (refine gate_guard (by rfl) ?_; dsimp only)); refine goesL_ (some 17) rfl rfl Try.func19 (by kernel_rfl) rfl #[.slice none 0 0, .slice A_n yn.length c_n] rfl (by (try simp only [List.map_toArray, List.map_cons, List.map_nil]); first | done | rfl) ?_; (refine (wire_Put.calls K2 _ _ ([] : List Int) _ _ yn pn _ ?side1 ?side2 ?side3 ?side4 A2.out).mono ?_); (case side1 => exact Kd.C_nil _ _); (case side2 => exact Nat.le_refl _); (case side3 => exact (Kd.R_reads' H_n.out).2.2); (case side4 => exact (Kd.R_reads' H_n.out).2.1); rintro e w_pn ⟨v_pn, rfl, ho_, hb_⟩; refine ⟨_, rfl, ?_⟩; have HB0_ := HB; replace CB := Aside0.mk (Kd.C_below CB.out hb_); replace H_n := Aside0.mk (Kd.R_below H_n.out hb_); replace HB := Aside0.mk (below_step HB.out hb_); obtain ⟨A_pn, c_pn, e_pn⟩ := Kd.R_slice ho_; subst e_pn; clear ho_ hb_; clear HB0_) | ((with_reducible refine gate_callee (f := 32) rfl ?_); (with_reducible refine gate_dst (N := 21) rfl ?_); (try (refine gate_guard (by rfl) ?_; dsimp only)); refine goesL_ (some 21) rfl rfl Try.func32 (by kernel_rfl) rfl #[.slice B lb.length cb] rfl (by (try simp only [List.map_toArray, List.map_cons, List.map_nil]); first | done | rfl) ?_; (refine (wire_Take.calls K3 _ _ lb v rs none _ ?side1 ?side2 A3.out).mono ?_); (case side1 => exact CB.out); (case side2 => exact LB.out); rintro e w_tk ⟨v_tk, rfl, ho_, hb_⟩; refine ⟨_, rfl, ?_⟩; have HB0_ := HB; replace CB := Aside0.mk (Kd.C_below CB.out hb_); replace HB := Aside0.mk (below_step HB.out hb_); have H_tk := Aside0.mk (Kd.R_lower ho_ (below_size HB0_.out)); clear ho_ hb_; obtain ⟨A_tk, c_tk, e_tk⟩ := Kd.R_slice H_tk.out; subst e_tk; (try simp only [errW_none, errW_some]); clear HB0_))
  obtain ⟨hp0, hp1, hps, h5, hlb⟩ := HQ.out
  have hst : strOfNums pv ++ strOfNums rs = strOfNums lb := by rw [← h5]; exact (str_app pv rs).symm
  have hsz : (strOfNums pv).size + (strOfNums rs).size ≤ 9223372036854775807 := by
    rw [strOfNums_size, strOfNums_size]
    have := congrArg List.length h5
    rw [List.length_append] at this
    omega
  refine region_mem (n := 14) (by kernel_rfl) rfl (fun i => 25 + i) ?hN (fun i j _ _ h => by have h' : 25 + i = 25 + j := h; omega) (fun i hi => by show 25 + i < _; simp; omega) ?hdag (fun i u_ w => match i with | 0 => u_ = .nilIface | 1 => u_ = .bool true | 2 => u_ = .bool true | 3 => u_ = .int .i64 v | 4 => ∃ A c, u_ = .slice A yv.length c ∧ yv.length ≤ c ∧ Kd.C (Kd.int .i64) w A yv.length yv | 5 => ∃ A c, u_ = .slice A pv.length c ∧ pv.length ≤ c ∧ Kd.C (Kd.int .u8) w A pv.length pv | 6 => u_ = .string (strOfNums pv) | 7 => u_ = .slice A_tk rs.length c_tk | 8 => u_ = .string (strOfNums rs) | 9 => u_ = .string (strOfNums lb) | 10 => u_ = .slice B lb.length cb | 11 => u_ = .string (strOfNums lb) | 12 => u_ = .bool false | 13 => u_ = .bool false | _ => True) ?hS ?step ?hend
  case hN =>
    intro i o ho
    have hi : i < 14 := (Array.getElem?_eq_some_iff.1 ho).1
    match i, hi, ho with
    | 0, _, ho => simp only [List.getElem?_toArray, List.getElem?_cons_zero, List.getElem?_cons_succ, Option.some.injEq] at ho; subst ho; rfl
    | 1, _, ho => simp only [List.getElem?_toArray, List.getElem?_cons_zero, List.getElem?_cons_succ, Option.some.injEq] at ho; subst ho; rfl
    | 2, _, ho => simp only [List.getElem?_toArray, List.getElem?_cons_zero, List.getElem?_cons_succ, Option.some.injEq] at ho; subst ho; rfl
    | 3, _, ho => simp only [List.getElem?_toArray, List.getElem?_cons_zero, List.getElem?_cons_succ, Option.some.injEq] at ho; subst ho; rfl
    | 4, _, ho => simp only [List.getElem?_toArray, List.getElem?_cons_zero, List.getElem?_cons_succ, Option.some.injEq] at ho; subst ho; rfl
    | 5, _, ho => simp only [List.getElem?_toArray, List.getElem?_cons_zero, List.getElem?_cons_succ, Option.some.injEq] at ho; subst ho; rfl
    | 6, _, ho => simp only [List.getElem?_toArray, List.getElem?_cons_zero, List.getElem?_cons_succ, Option.some.injEq] at ho; subst ho; rfl
    | 7, _, ho => simp only [List.getElem?_toArray, List.getElem?_cons_zero, List.getElem?_cons_succ, Option.some.injEq] at ho; subst ho; rfl
    | 8, _, ho => simp only [List.getElem?_toArray, List.getElem?_cons_zero, List.getElem?_cons_succ, Option.some.injEq] at ho; subst ho; rfl
    | 9, _, ho => simp only [List.getElem?_toArray, List.getElem?_cons_zero, List.getElem?_cons_succ, Option.some.injEq] at ho; subst ho; rfl
    | 10, _, ho => simp only [List.getElem?_toArray, List.getElem?_cons_zero, List.getElem?_cons_succ, Option.some.injEq] at ho; subst ho; rfl
    | 11, _, ho => simp only [List.getElem?_toArray, List.getElem?_cons_zero, List.getElem?_cons_succ, Option.some.injEq] at ho; subst ho; rfl
    | 12, _, ho => simp only [List.getElem?_toArray, List.getElem?_cons_zero, List.getElem?_cons_succ, Option.some.injEq] at ho; subst ho; rfl
    | 13, _, ho => simp only [List.getElem?_toArray, List.getElem?_cons_zero, List.getElem?_cons_succ, Option.some.injEq] at ho; subst ho; rfl
  case hdag =>
    intro i o ho
    have hi : i < 14 := (Array.getElem?_eq_some_iff.1 ho).1
    match i, hi, ho with
    | 0, _, ho => simp only [List.getElem?_toArray, List.getElem?_cons_zero, List.getElem?_cons_succ, Option.some.injEq] at ho; subst ho; decide
    | 1, _, ho => simp only [List.getElem?_toArray, List.getElem?_cons_zero, List.getElem?_cons_succ, Option.some.injEq] at ho; subst ho; decide
    | 2, _, ho => simp only [List.getElem?_toArray, List.getElem?_cons_zero, List.getElem?_cons_succ, Option.some.injEq] at ho; subst ho; decide
    | 3, _, ho => simp only [List.getElem?_toArray, List.getElem?_cons_zero, List.getElem?_cons_succ, Option.some.injEq] at ho; subst ho; decide
    | 4, _, ho => simp only [List.getElem?_toArray, List.getElem?_cons_zero, List.getElem?_cons_succ, Option.some.injEq] at ho; subst ho; decide
    | 5, _, ho => simp only [List.getElem?_toArray, List.getElem?_cons_zero, List.getElem?_cons_succ, Option.some.injEq] at ho; subst ho; decide
    | 6, _, ho => simp only [List.getElem?_toArray, List.getElem?_cons_zero, List.getElem?_cons_succ, Option.some.injEq] at ho; subst ho; decide
    | 7, _, ho => simp only [List.getElem?_toArray, List.getElem?_cons_zero, List.getElem?_cons_succ, Option.some.injEq] at ho; subst ho; decide
    | 8, _, ho => simp only [List.getElem?_toArray, List.getElem?_cons_zero, List.getElem?_cons_succ, Option.some.injEq] at ho; subst ho; decide
    | 9, _, ho => simp only [List.getElem?_toArray, List.getElem?_cons_zero, List.getElem?_cons_succ, Option.some.injEq] at ho; subst ho; decide
    | 10, _, ho => simp only [List.getElem?_toArray, List.getElem?_cons_zero, List.getElem?_cons_succ, Option.some.injEq] at ho; subst ho; decide
    | 11, _, ho => simp only [List.getElem?_toArray, List.getElem?_cons_zero, List.getElem?_cons_succ, Option.some.injEq] at ho; subst ho; decide
    | 12, _, ho => simp only [List.getElem?_toArray, List.getElem?_cons_zero, List.getElem?_cons_succ, Option.some.injEq] at ho; subst ho; decide
    | 13, _, ho => simp only [List.getElem?_toArray, List.getElem?_cons_zero, List.getElem?_cons_succ, Option.some.injEq] at ho; subst ho; decide
  case hS =>
    intro i u_ w w' h hb
    match i, h with
    | 0, h => exact h
    | 1, h => exact h
    | 2, h => exact h
    | 3, h => exact h
    | 4, ⟨A, c, h1, h2, h3⟩ => exact ⟨A, c, h1, h2, Kd.C_below h3 hb⟩
    | 5, ⟨A, c, h1, h2, h3⟩ => exact ⟨A, c, h1, h2, Kd.C_below h3 hb⟩
    | 6, h => exact h
    | 7, h => exact h
    | 8, h => exact h
    | 9, h => exact h
    | 10, h => exact h
    | 11, h => exact h
    | 12, h => exact h
    | 13, h => exact h
    | _ + 14, _ => trivial
  case step =>
    intro i o a w ho hd hs hf hb hdep
    have hi : i < 14 := (Array.getElem?_eq_some_iff.1 ho).1
    match i, hi, ho with
    | 0, _, ho =>
      simp only [List.getElem?_toArray, List.getElem?_cons_zero, List.getElem?_cons_succ, Option.some.injEq] at ho
      subst ho
      have e8 : a.eval (.tmp 8) = .nilIface := ev_of ((hf 8 (fun j hj => by show 25 + j ≠ 8; omega)).trans rfl)
      exact reg_value (S := fun u_ w => u_ = .nilIface) (v := .nilIface) (w' := w) rfl (by simp only [execOp, e8]; go_simp) rfl (Below.refl _ _)
    | 1, _, ho =>
      simp only [List.getElem?_toArray, List.getElem?_cons_zero, List.getElem?_cons_succ, Option.some.injEq] at ho
      subst ho
      have t25 : a.tmps[25]? = some (.nilIface) := by obtain ⟨u_, h1, h2⟩ := hdep ⟨0, .data⟩ (by simp) rfl; rw [show u_ = .nilIface from h2] at h1; exact h1
      have e25 := ev_of t25
      exact reg_value (S := fun u_ w => u_ = .bool true) (v := .bool true) (w' := w) rfl (by simp only [execOp, e25]; go_simp) rfl (Below.refl _ _)
    | 2, _, ho =>
      simp only [List.getElem?_toArray, List.getElem?_cons_zero, List.getElem?_cons_succ, Option.some.injEq] at ho
      subst ho
      have t26 : a.tmps[26]? = some (.bool true) := by obtain ⟨u_, h1, h2⟩ := hdep ⟨1, .data⟩ (by simp) rfl; rw [show u_ = .bool true from h2] at h1; exact h1
      have e26 := ev_of t26
      exact reg_value (S := fun u_ w => u_ = .bool true) (v := .bool true) (w' := w) rfl (by simp only [execOp, e26]; go_simp) rfl (Below.refl _ _)
    | 3, _, ho =>
      simp only [List.getElem?_toArray, List.getElem?_cons_zero, List.getElem?_cons_succ, Option.some.injEq] at ho
      subst ho
      have e6 : a.eval (.tmp 6) = .int .i64 v := ev_of ((hf 6 (fun j hj => by show 25 + j ≠ 6; omega)).trans rfl)
      have t27 : a.tmps[27]? = some (.bool true) := by obtain ⟨u_, h1, h2⟩ := hdep ⟨2, .guard⟩ (by simp) rfl; rw [show u_ = .bool true from h2] at h1; exact h1
      have e27 := ev_of t27
      exact reg_value (S := fun u_ w => u_ = .int .i64 v) (v := .int .i64 v) (w' := w) (wanted_of 2 true true true t27 rfl rfl rfl) (by simp only [execOp, e6, e27]; go_simp) rfl (Below.refl _ _)
    | 4, _, ho =>
      simp only [List.getElem?_toArray, List.getElem?_cons_zero, List.getElem?_cons_succ, Option.some.injEq] at ho
      subst ho
      have t28 : a.tmps[28]? = some (.int .i64 v) := by obtain ⟨u_, h1, h2⟩ := hdep ⟨3, .data⟩ (by simp) rfl; rw [show u_ = .int .i64 v from h2] at h1; exact h1
      have e28 := ev_of t28
      have t27 : a.tmps[27]? = some (.bool true) := by obtain ⟨u_, h1, h2⟩ := hdep ⟨2, .guard⟩ (by simp) rfl; rw [show u_ = .bool true from h2] at h1; exact h1
      have e27 := ev_of t27
      have hrun : ∀ W : World, (execOp a.eval { dst := some 29, op := Op.buildSlice 27 1 #[(0, Operand.tmp 28)], type := 27, pos := "law.go:134", after := #[{ on := 3, ground := Ground.data }, { on := 2, ground := Ground.guard }], guard := some (2, true) }).run Try.prog W = .ok (.value (.slice (some ⟨W.heap.size, 0, none⟩) [Value.int .i64 v].length [Value.int .i64 v].length)) (W.alloc (.cells [Value.int .i64 v].toArray 3)) := by
        intro W
        simp only [execOp, List.map_toArray, List.map_cons, List.map_nil, e28, e27]
        go_simp
        try rfl
      refine reg_value (S := fun u_ w => ∃ A c, u_ = .slice A yv.length c ∧ yv.length ≤ c ∧ Kd.C (Kd.int .i64) w A yv.length yv) (wanted_of 2 true true true t27 rfl rfl rfl) (hrun w) ⟨_, _, by rw [Nyv.out]; rfl, by rw [Nyv.out]; exact Nat.le_refl _, ?_⟩ (below_alloc (Below.refl _ _) _)
      have h2 := World.ownsRow_lit (base := w.heap.size) (e := 3) (size := 1) w [Value.int .i64 v].toArray 1 (Nat.le_refl _) (by unfold maxLen; omega) rfl
      obtain ⟨A, c, he, hr⟩ := own_reads_row (R := (Kd.int .i64).K w) (ps := [v]) h2 (Reps.one rfl (Reps.none _ _)) rfl
      injection he with h3 _ _
      subst h3
      rw [Nyv.out]
      exact hr
    | 5, _, ho =>
      simp only [List.getElem?_toArray, List.getElem?_cons_zero, List.getElem?_cons_succ, Option.some.injEq] at ho
      subst ho
      obtain ⟨v4, t29, A4, c4, q4, l4, C4⟩ : ∃ v, a.tmps[29]? = some v ∧ ∃ A c, v = .slice A yv.length c ∧ yv.length ≤ c ∧ Kd.C (Kd.int .i64) w A yv.length yv := hdep ⟨4, .data⟩ (by simp) rfl
      subst q4
      have e29 := ev_of t29
      have t27 : a.tmps[27]? = some (.bool true) := by obtain ⟨u_, h1, h2⟩ := hdep ⟨2, .guard⟩ (by simp) rfl; rw [show u_ = .bool true from h2] at h1; exact h1
      have e27 := ev_of t27
      refine reg_call (S := fun u_ w => ∃ A c, u_ = .slice A pv.length c ∧ pv.length ≤ c ∧ Kd.C (Kd.int .u8) w A pv.length pv) (wanted_of 2 true true true t27 rfl rfl rfl) (reg_enters Try.func19 (by kernel_rfl) rfl #[.slice none 0 0, .slice A4 yv.length c4] rfl (by simp only [List.map_toArray, List.map_cons, List.map_nil, e29, e27]; rfl)) ?_
      refine (wire_Put.calls K4 _ _ ([] : List Int) _ _ yv pv _ (Kd.C_nil _ _) (Nat.le_refl _) C4 l4 A4'.out).mono ?_
      rintro e w' ⟨v0, rfl, ho, hbw⟩
      obtain ⟨A, c, he, hl, hC⟩ := Kd.R_reads ho
      exact ⟨_, rfl, ⟨A, c, he, hl, hC⟩, hbw⟩
    | 6, _, ho =>
      simp only [List.getElem?_toArray, List.getElem?_cons_zero, List.getElem?_cons_succ, Option.some.injEq] at ho
      subst ho
      obtain ⟨v5, t30, A5, c5, q5, l5, C5⟩ : ∃ v, a.tmps[30]? = some v ∧ ∃ A c, v = .slice A pv.length c ∧ pv.length ≤ c ∧ Kd.C (Kd.int .u8) w A pv.length pv := hdep ⟨5, .data⟩ (by simp) rfl
      subst q5
      have e30 := ev_of t30
      have t27 : a.tmps[27]? = some (.bool true) := by obtain ⟨u_, h1, h2⟩ := hdep ⟨2, .guard⟩ (by simp) rfl; rw [show u_ = .bool true from h2] at h1; exact h1
      have e27 := ev_of t27
      have hcv := Kd.C_string (P := Try.prog) (A := A5) (c := c5) Try.underlying22 Try.underlying5 Try.underlying9 C5
      exact reg_value (S := fun u_ w => u_ = .string (strOfNums pv)) (v := .string (strOfNums pv)) (w' := w) (wanted_of 2 true true true t27 rfl rfl rfl) (by simp only [execOp, e30, e27]; go_simp) rfl (Below.refl _ _)
    | 7, _, ho =>
      simp only [List.getElem?_toArray, List.getElem?_cons_zero, List.getElem?_cons_succ, Option.some.injEq] at ho
      subst ho
      have e7 : a.eval (.tmp 7) = .slice A_tk rs.length c_tk := ev_of ((hf 7 (fun j hj => by show 25 + j ≠ 7; omega)).trans rfl)
      have t27 : a.tmps[27]? = some (.bool true) := by obtain ⟨u_, h1, h2⟩ := hdep ⟨2, .guard⟩ (by simp) rfl; rw [show u_ = .bool true from h2] at h1; exact h1
      have e27 := ev_of t27
      exact reg_value (S := fun u_ w => u_ = .slice A_tk rs.length c_tk) (v := .slice A_tk rs.length c_tk) (w' := w) (wanted_of 2 true true true t27 rfl rfl rfl) (by simp only [execOp, e7, e27]; go_simp) rfl (Below.refl _ _)
    | 8, _, ho =>
      simp only [List.getElem?_toArray, List.getElem?_cons_zero, List.getElem?_cons_succ, Option.some.injEq] at ho
      subst ho
      have t32 : a.tmps[32]? = some (.slice A_tk rs.length c_tk) := by obtain ⟨u_, h1, h2⟩ := hdep ⟨7, .data⟩ (by simp) rfl; rw [show u_ = .slice A_tk rs.length c_tk from h2] at h1; exact h1
      have e32 := ev_of t32
      have t27 : a.tmps[27]? = some (.bool true) := by obtain ⟨u_, h1, h2⟩ := hdep ⟨2, .guard⟩ (by simp) rfl; rw [show u_ = .bool true from h2] at h1; exact h1
      have e27 := ev_of t27
      have hcv := Kd.C_string (P := Try.prog) (A := A_tk) (c := c_tk) Try.underlying22 Try.underlying5 Try.underlying9 (Kd.C_below (Kd.R_reads' H_tk.out).2.2 hb)
      exact reg_value (S := fun u_ w => u_ = .string (strOfNums rs)) (v := .string (strOfNums rs)) (w' := w) (wanted_of 2 true true true t27 rfl rfl rfl) (by simp only [execOp, e32, e27]; go_simp) rfl (Below.refl _ _)
    | 9, _, ho =>
      simp only [List.getElem?_toArray, List.getElem?_cons_zero, List.getElem?_cons_succ, Option.some.injEq] at ho
      subst ho
      have t31 : a.tmps[31]? = some (.string (strOfNums pv)) := by obtain ⟨u_, h1, h2⟩ := hdep ⟨6, .data⟩ (by simp) rfl; rw [show u_ = .string (strOfNums pv) from h2] at h1; exact h1
      have e31 := ev_of t31
      have t33 : a.tmps[33]? = some (.string (strOfNums rs)) := by obtain ⟨u_, h1, h2⟩ := hdep ⟨8, .data⟩ (by simp) rfl; rw [show u_ = .string (strOfNums rs) from h2] at h1; exact h1
      have e33 := ev_of t33
      have t27 : a.tmps[27]? = some (.bool true) := by obtain ⟨u_, h1, h2⟩ := hdep ⟨2, .guard⟩ (by simp) rfl; rw [show u_ = .bool true from h2] at h1; exact h1
      have e27 := ev_of t27
      exact reg_value (S := fun u_ w => u_ = .string (strOfNums lb)) (v := .string (strOfNums lb)) (w' := w) (wanted_of 2 true true true t27 rfl rfl rfl) (by simp only [execOp, e31, e33, e27]; go_simp) rfl (Below.refl _ _)
    | 10, _, ho =>
      simp only [List.getElem?_toArray, List.getElem?_cons_zero, List.getElem?_cons_succ, Option.some.injEq] at ho
      subst ho
      have e0 : a.eval (.tmp 0) = .slice B lb.length cb := ev_of ((hf 0 (fun j hj => by show 25 + j ≠ 0; omega)).trans rfl)
      have t27 : a.tmps[27]? = some (.bool true) := by obtain ⟨u_, h1, h2⟩ := hdep ⟨2, .guard⟩ (by simp) rfl; rw [show u_ = .bool true from h2] at h1; exact h1
      have e27 := ev_of t27
      exact reg_value (S := fun u_ w => u_ = .slice B lb.length cb) (v := .slice B lb.length cb) (w' := w) (wanted_of 2 true true true t27 rfl rfl rfl) (by simp only [execOp, e0, e27]; go_simp) rfl (Below.refl _ _)
    | 11, _, ho =>
      simp only [List.getElem?_toArray, List.getElem?_cons_zero, List.getElem?_cons_succ, Option.some.injEq] at ho
      subst ho
      have t35 : a.tmps[35]? = some (.slice B lb.length cb) := by obtain ⟨u_, h1, h2⟩ := hdep ⟨10, .data⟩ (by simp) rfl; rw [show u_ = .slice B lb.length cb from h2] at h1; exact h1
      have e35 := ev_of t35
      have t27 : a.tmps[27]? = some (.bool true) := by obtain ⟨u_, h1, h2⟩ := hdep ⟨2, .guard⟩ (by simp) rfl; rw [show u_ = .bool true from h2] at h1; exact h1
      have e27 := ev_of t27
      have hcv := Kd.C_string (P := Try.prog) (A := B) (c := cb) Try.underlying22 Try.underlying5 Try.underlying9 (Kd.C_below CB.out hb)
      exact reg_value (S := fun u_ w => u_ = .string (strOfNums lb)) (v := .string (strOfNums lb)) (w' := w) (wanted_of 2 true true true t27 rfl rfl rfl) (by simp only [execOp, e35, e27]; go_simp) rfl (Below.refl _ _)
    | 12, _, ho =>
      simp only [List.getElem?_toArray, List.getElem?_cons_zero, List.getElem?_cons_succ, Option.some.injEq] at ho
      subst ho
      have t34 : a.tmps[34]? = some (.string (strOfNums lb)) := by obtain ⟨u_, h1, h2⟩ := hdep ⟨9, .data⟩ (by simp) rfl; rw [show u_ = .string (strOfNums lb) from h2] at h1; exact h1
      have e34 := ev_of t34
      have t36 : a.tmps[36]? = some (.string (strOfNums lb)) := by obtain ⟨u_, h1, h2⟩ := hdep ⟨11, .data⟩ (by simp) rfl; rw [show u_ = .string (strOfNums lb) from h2] at h1; exact h1
      have e36 := ev_of t36
      have t27 : a.tmps[27]? = some (.bool true) := by obtain ⟨u_, h1, h2⟩ := hdep ⟨2, .guard⟩ (by simp) rfl; rw [show u_ = .bool true from h2] at h1; exact h1
      have e27 := ev_of t27
      exact reg_value (S := fun u_ w => u_ = .bool false) (v := .bool false) (w' := w) (wanted_of 2 true true true t27 rfl rfl rfl) (by simp only [execOp, e34, e36, e27]; go_simp) rfl (Below.refl _ _)
    | 13, _, ho =>
      simp only [List.getElem?_toArray, List.getElem?_cons_zero, List.getElem?_cons_succ, Option.some.injEq] at ho
      subst ho
      have t27 : a.tmps[27]? = some (.bool true) := by obtain ⟨u_, h1, h2⟩ := hdep ⟨2, .data⟩ (by simp) rfl; rw [show u_ = .bool true from h2] at h1; exact h1
      have e27 := ev_of t27
      have t37 : a.tmps[37]? = some (.bool false) := by obtain ⟨u_, h1, h2⟩ := hdep ⟨12, .data⟩ (by simp) rfl; rw [show u_ = .bool false from h2] at h1; exact h1
      have e37 := ev_of t37
      exact reg_value (S := fun u_ w => u_ = .bool false) (v := .bool false) (w' := w) rfl (by simp only [execOp, e27, e37]; go_simp) rfl (Below.refl _ _)
  case hend =>
    intro vs w hb hall
    have s0 : vs 0 = .nilIface := hall 0 (by omega)
    have s1 : vs 1 = .bool true := hall 1 (by omega)
    have s2 : vs 2 = .bool true := hall 2 (by omega)
    have s3 : vs 3 = .int .i64 v := hall 3 (by omega)
    obtain ⟨A4, c4, s4, l4, C4⟩ : ∃ A c, vs 4 = .slice A yv.length c ∧ yv.length ≤ c ∧ Kd.C (Kd.int .i64) w A yv.length yv := hall 4 (by omega)
    obtain ⟨A5, c5, s5, l5, C5⟩ : ∃ A c, vs 5 = .slice A pv.length c ∧ pv.length ≤ c ∧ Kd.C (Kd.int .u8) w A pv.length pv := hall 5 (by omega)
    have s6 : vs 6 = .string (strOfNums pv) := hall 6 (by omega)
    have s7 : vs 7 = .slice A_tk rs.length c_tk := hall 7 (by omega)
    have s8 : vs 8 = .string (strOfNums rs) := hall 8 (by omega)
    have s9 : vs 9 = .string (strOfNums lb) := hall 9 (by omega)
    have s10 : vs 10 = .slice B lb.length cb := hall 10 (by omega)
    have s11 : vs 11 = .string (strOfNums lb) := hall 11 (by omega)
    have s12 : vs 12 = .bool false := hall 12 (by omega)
    have s13 : vs 13 = .bool false := hall 13 (by omega)
    simp only [fillN, Act.put, s0, s1, s2, s3, s4, s5, s6, s7, s8, s9, s10, s11, s12, s13, List.setIfInBounds_toArray, List.set_cons_zero, List.set_cons_succ, Nat.reduceAdd]
    have hl1 : ((pn.length : Nat) : Int) ≥ 1 := by omega
    have hl2 : ((pn.length : Nat) : Int) ≤ 10 := by omega
    by_cases hq1 : n ≥ -64
    · by_cases hq2 : n < 64
      · have hq3 : ((pn.length : Nat) : Int) = 1 := by have := hps.1 ⟨hq1, hq2⟩; omega
        go_wp2
        go_ret; refine ⟨?_, HB.out.trans (Below.mono hb HB.out.size)⟩; simp [hl1, hl2, hq1, hq2, hq3]
      · have hq3 : ¬ ((pn.length : Nat) : Int) = 1 := fun h => hq2 (hps.2 (by omega)).2
        go_wp2
        go_ret; refine ⟨?_, HB.out.trans (Below.mono hb HB.out.size)⟩; simp [hl1, hl2, hq1, hq2, hq3]
    · have hq3 : ¬ ((pn.length : Nat) : Int) = 1 := fun h => hq1 (hps.2 (by omega)).1
      go_wp2
      go_ret; refine ⟨?_, HB.out.trans (Below.mono hb HB.out.size)⟩; simp [hl1, hl2, hq1, hq3]
set_option maxHeartbeats 8000000 in
set_option maxRecDepth 100000 in
theorem one_none (n : Int) (B : Option Addr) (cb : Nat) (lb : List Int) (w : World) (hB : Kd.C (Kd.int .u8) w B lb.length lb) (hcb : lb.length ≤ cb) (K1 K2 K3 : Nat)
    (h1 : palimpsestlaw02_large.f K1 [lb] = some false) (pn : List Int) (h2 : wire_Put.f K2 [] [n] = some pn) (hp0 : 1 ≤ pn.length) (hp1 : pn.length ≤ 10) (hps : (-64 ≤ n ∧ n < 64) ↔ pn.length = 1) (v : Int) (rs : List Int) (er : Int) (h3 : wire_Take.f K3 lb = some (v, rs, some er)) :
    Calls Try.prog 7 #[.slice B lb.length cb, .int .i64 n] w fun e w' => e = .returned (.bool true) ∧ Below w.heap.size w w' := by
  have CB := Aside0.mk hB
  have LB := Aside0.mk hcb
  have HB := Aside0.mk (Below.refl w.heap.size w)
  obtain ⟨y, hy⟩ : ∃ y, y = [lb] := ⟨_, rfl⟩
  obtain ⟨yn, hyn⟩ : ∃ y : List Int, y = [n] := ⟨_, rfl⟩
  have A1 := Aside0.mk (show palimpsestlaw02_large.f K1 y = some false by rw [hy]; exact h1)
  have A2 := Aside0.mk (show wire_Put.f K2 [] yn = some pn by rw [hyn]; exact h2)
  have A3 := Aside0.mk h3
  have Ny := Aside0.mk hy
  have Nyn := Aside0.mk hyn
  have HQ := Aside0.mk (And.intro hp0 (And.intro hp1 hps))
  clear hB hcb hy h1 hyn h2 h3 hp0 hp1 hps
  go_enter Try.func7, Try.ntmps7
  go_upto_region 7 with (first | ((with_reducible refine gate_callee (f := 16) rfl ?_); (with_reducible refine gate_dst (N := 10) rfl ?_); (try (refine gate_guard (by rfl) ?_; dsimp only)); refine goesL_ (some 10) rfl rfl Try.func16 (by kernel_rfl) rfl #[] rfl (by (try simp only [List.map_toArray, List.map_cons, List.map_nil]); first | done | rfl) ?_; (refine (alive_calls _).mono ?_); rintro e w_al ⟨rfl, hb_⟩; refine ⟨_, rfl, ?_⟩; have HB0_ := HB; replace CB := Aside0.mk (Kd.C_below CB.out hb_); replace HB := Aside0.mk (below_step HB.out hb_); clear hb_; clear HB0_) | ((with_reducible refine gate_dst (N := 13) rfl ?_); (try (refine gate_guard (by rfl) ?_; dsimp only)); refine C_lit (Kd.slice 5 (Kd.int .u8)) 22 ?hg (N := 13) ?hd (xs := [lb]) (inner := [.slice B lb.length cb]) ?hr ?hp (by simp) ?_; (case hd => rfl); (case hg => rfl); (case hr => first | (go_simp; done) | (go_simp; rfl)); (case hp => exact (Reps.one ⟨_, _, rfl, LB.out, CB.out⟩ (Reps.none _ _))); intro w_y A_y c_y hc_ l_y hb_; rw [← Ny.out] at hc_ l_y ⊢; replace CB := Aside0.mk (Kd.C_below CB.out hb_); replace HB := Aside0.mk (below_step HB.out hb_); have C_y := Aside0.mk hc_; have L_y := Aside0.mk l_y; clear hc_ hb_ l_y) | ((with_reducible refine gate_callee (f := 17) rfl ?_); (with_reducible refine gate_dst (N := 14) rfl ?_); (try (refine gate_guard (by rfl) ?_; dsimp only)); refine goesL_ (some 14) rfl rfl Try.func17 (by kernel_rfl) rfl #[.slice A_y y.length c_y] rfl (by (try simp only [List.map_toArray, List.map_cons, List.map_nil]); first | done | rfl) ?_; (refine (palimpsestlaw02_large.calls K1 _ _ y false _ ?side1 ?side2 A1.out).mono ?_); (case side1 => exact C_y.out); (case side2 => exact L_y.out); rintro e w_lg ⟨rfl, ⟨⟨nd_, rfl⟩⟩⟩; refine ⟨_, rfl, ?_⟩; have HB0_ := HB; replace CB := Aside0.mk (Kd.C_below CB.out (pw_below_drewN (Below.refl _ _) nd_)); replace C_y := Aside0.mk (Kd.C_below C_y.out (pw_below_drewN (Below.refl _ _) nd_)); replace HB := Aside0.mk (below_step HB.out (pw_below_drewN (Below.refl _ _) nd_)); clear HB0_) | ((with_reducible refine gate_dst (N := 16) rfl ?_); (try (refine gate_guard (by rfl) ?_; dsimp only)); refine Kd.R_lit (w0 := (w_y.drewN nd_)) (Kd.int .i64) (w_y.drewN nd_).heap.size 3 ?hg (N := 16) ?hd (xs := ([n] : List Int)) (inner := [.int .i64 n]) (ok := fun _ => True) (okp := fun _ => True) ?hr ?hp (fun _ hk => hk) trivial (Below.refl _ _) (Nat.le_refl _) (by simp) ?_; (case hd => rfl); (case hg => rfl); (case hr => first | (go_simp; done) | (go_simp; rfl)); (case hp => exact (Reps.one (show Kd.M (Kd.int .i64) _ _ _ n [.int .i64 n] from rfl) (Reps.none _ _))); have HB0_ := HB; intro v_n w_n ho_ hb_ hg_ hnew_; rw [← Nyn.out] at ho_; replace CB := Aside0.mk (Kd.C_below CB.out hb_); replace HB := Aside0.mk (below_step HB.out hb_); have H_n := Aside0.mk (Kd.R_lower ho_ (below_size HB0_.out)); clear ho_ hb_ hg_ hnew_ HB0_; obtain ⟨A_n, c_n, e_n⟩ := Kd.R_slice H_n.out; subst e_n) | ((with_reducible refine gate_callee (f := 19) rfl ?_); (with_reducible refine gate_dst (N := 17) rfl ?_); (try (refine gate_guard (by rfl) ?_; dsimp only)); refine goesL_ (some 17) rfl rfl Try.func19 (by kernel_rfl) rfl #[.slice none 0 0, .slice A_n yn.length c_n] rfl (by (try simp only [List.map_toArray, List.map_cons, List.map_nil]); first | done | rfl) ?_; (refine (wire_Put.calls K2 _ _ ([] : List Int) _ _ yn pn _ ?side1 ?side2 ?side3 ?side4 A2.out).mono ?_); (case side1 => exact Kd.C_nil _ _); (case side2 => exact Nat.le_refl _); (case side3 => exact (Kd.R_reads' H_n.out).2.2); (case side4 => exact (Kd.R_reads' H_n.out).2.1); rintro e w_pn ⟨v_pn, rfl, ho_, hb_⟩; refine ⟨_, rfl, ?_⟩; have HB0_ := HB; replace CB := Aside0.mk (Kd.C_below CB.out hb_); replace H_n := Aside0.mk (Kd.R_below H_n.out hb_); replace HB := Aside0.mk (below_step HB.out hb_); obtain ⟨A_pn, c_pn, e_pn⟩ := Kd.R_slice ho_; subst e_pn; clear ho_ hb_; clear HB0_) | ((with_reducible refine gate_callee (f := 32) rfl ?_); (with_reducible refine gate_dst (N := 21) rfl ?_); (try (refine gate_guard (by rfl) ?_; dsimp only)); refine goesL_ (some 21) rfl rfl Try.func32 (by kernel_rfl) rfl #[.slice B lb.length cb] rfl (by (try simp only [List.map_toArray, List.map_cons, List.map_nil]); first | done | rfl) ?_; (refine (wire_Take.calls K3 _ _ lb v rs (some er) _ ?side1 ?side2 A3.out).mono ?_); (case side1 => exact CB.out); (case side2 => exact LB.out); rintro e w_tk ⟨v_tk, rfl, ho_, hb_⟩; refine ⟨_, rfl, ?_⟩; have HB0_ := HB; replace CB := Aside0.mk (Kd.C_below CB.out hb_); replace HB := Aside0.mk (below_step HB.out hb_); have H_tk := Aside0.mk (Kd.R_lower ho_ (below_size HB0_.out)); clear ho_ hb_; obtain ⟨A_tk, c_tk, e_tk⟩ := Kd.R_slice H_tk.out; subst e_tk; (try simp only [errW_none, errW_some]); clear HB0_))
  obtain ⟨hp0, hp1, hps⟩ := HQ.out
  refine region_mem (n := 14) (by kernel_rfl) rfl (fun i => 25 + i) ?hN (fun i j _ _ h => by have h' : 25 + i = 25 + j := h; omega) (fun i hi => by show 25 + i < _; simp; omega) ?hdag (fun i u_ w => match i with | 0 => u_ = .iface 49 (.int .i64 er) | 1 => u_ = .bool false | 2 => u_ = .bool false | 3 => u_ = undef | 4 => u_ = undef | 5 => u_ = undef | 6 => u_ = undef | 7 => u_ = undef | 8 => u_ = undef | 9 => u_ = undef | 10 => u_ = undef | 11 => u_ = undef | 12 => u_ = undef | 13 => u_ = .bool false | _ => True) ?hS ?step ?hend
  case hN =>
    intro i o ho
    have hi : i < 14 := (Array.getElem?_eq_some_iff.1 ho).1
    match i, hi, ho with
    | 0, _, ho => simp only [List.getElem?_toArray, List.getElem?_cons_zero, List.getElem?_cons_succ, Option.some.injEq] at ho; subst ho; rfl
    | 1, _, ho => simp only [List.getElem?_toArray, List.getElem?_cons_zero, List.getElem?_cons_succ, Option.some.injEq] at ho; subst ho; rfl
    | 2, _, ho => simp only [List.getElem?_toArray, List.getElem?_cons_zero, List.getElem?_cons_succ, Option.some.injEq] at ho; subst ho; rfl
    | 3, _, ho => simp only [List.getElem?_toArray, List.getElem?_cons_zero, List.getElem?_cons_succ, Option.some.injEq] at ho; subst ho; rfl
    | 4, _, ho => simp only [List.getElem?_toArray, List.getElem?_cons_zero, List.getElem?_cons_succ, Option.some.injEq] at ho; subst ho; rfl
    | 5, _, ho => simp only [List.getElem?_toArray, List.getElem?_cons_zero, List.getElem?_cons_succ, Option.some.injEq] at ho; subst ho; rfl
    | 6, _, ho => simp only [List.getElem?_toArray, List.getElem?_cons_zero, List.getElem?_cons_succ, Option.some.injEq] at ho; subst ho; rfl
    | 7, _, ho => simp only [List.getElem?_toArray, List.getElem?_cons_zero, List.getElem?_cons_succ, Option.some.injEq] at ho; subst ho; rfl
    | 8, _, ho => simp only [List.getElem?_toArray, List.getElem?_cons_zero, List.getElem?_cons_succ, Option.some.injEq] at ho; subst ho; rfl
    | 9, _, ho => simp only [List.getElem?_toArray, List.getElem?_cons_zero, List.getElem?_cons_succ, Option.some.injEq] at ho; subst ho; rfl
    | 10, _, ho => simp only [List.getElem?_toArray, List.getElem?_cons_zero, List.getElem?_cons_succ, Option.some.injEq] at ho; subst ho; rfl
    | 11, _, ho => simp only [List.getElem?_toArray, List.getElem?_cons_zero, List.getElem?_cons_succ, Option.some.injEq] at ho; subst ho; rfl
    | 12, _, ho => simp only [List.getElem?_toArray, List.getElem?_cons_zero, List.getElem?_cons_succ, Option.some.injEq] at ho; subst ho; rfl
    | 13, _, ho => simp only [List.getElem?_toArray, List.getElem?_cons_zero, List.getElem?_cons_succ, Option.some.injEq] at ho; subst ho; rfl
  case hdag =>
    intro i o ho
    have hi : i < 14 := (Array.getElem?_eq_some_iff.1 ho).1
    match i, hi, ho with
    | 0, _, ho => simp only [List.getElem?_toArray, List.getElem?_cons_zero, List.getElem?_cons_succ, Option.some.injEq] at ho; subst ho; decide
    | 1, _, ho => simp only [List.getElem?_toArray, List.getElem?_cons_zero, List.getElem?_cons_succ, Option.some.injEq] at ho; subst ho; decide
    | 2, _, ho => simp only [List.getElem?_toArray, List.getElem?_cons_zero, List.getElem?_cons_succ, Option.some.injEq] at ho; subst ho; decide
    | 3, _, ho => simp only [List.getElem?_toArray, List.getElem?_cons_zero, List.getElem?_cons_succ, Option.some.injEq] at ho; subst ho; decide
    | 4, _, ho => simp only [List.getElem?_toArray, List.getElem?_cons_zero, List.getElem?_cons_succ, Option.some.injEq] at ho; subst ho; decide
    | 5, _, ho => simp only [List.getElem?_toArray, List.getElem?_cons_zero, List.getElem?_cons_succ, Option.some.injEq] at ho; subst ho; decide
    | 6, _, ho => simp only [List.getElem?_toArray, List.getElem?_cons_zero, List.getElem?_cons_succ, Option.some.injEq] at ho; subst ho; decide
    | 7, _, ho => simp only [List.getElem?_toArray, List.getElem?_cons_zero, List.getElem?_cons_succ, Option.some.injEq] at ho; subst ho; decide
    | 8, _, ho => simp only [List.getElem?_toArray, List.getElem?_cons_zero, List.getElem?_cons_succ, Option.some.injEq] at ho; subst ho; decide
    | 9, _, ho => simp only [List.getElem?_toArray, List.getElem?_cons_zero, List.getElem?_cons_succ, Option.some.injEq] at ho; subst ho; decide
    | 10, _, ho => simp only [List.getElem?_toArray, List.getElem?_cons_zero, List.getElem?_cons_succ, Option.some.injEq] at ho; subst ho; decide
    | 11, _, ho => simp only [List.getElem?_toArray, List.getElem?_cons_zero, List.getElem?_cons_succ, Option.some.injEq] at ho; subst ho; decide
    | 12, _, ho => simp only [List.getElem?_toArray, List.getElem?_cons_zero, List.getElem?_cons_succ, Option.some.injEq] at ho; subst ho; decide
    | 13, _, ho => simp only [List.getElem?_toArray, List.getElem?_cons_zero, List.getElem?_cons_succ, Option.some.injEq] at ho; subst ho; decide
  case hS =>
    intro i u_ w w' h hb
    match i, h with
    | 0, h => exact h
    | 1, h => exact h
    | 2, h => exact h
    | 3, h => exact h
    | 4, h => exact h
    | 5, h => exact h
    | 6, h => exact h
    | 7, h => exact h
    | 8, h => exact h
    | 9, h => exact h
    | 10, h => exact h
    | 11, h => exact h
    | 12, h => exact h
    | 13, h => exact h
    | _ + 14, _ => trivial
  case step =>
    intro i o a w ho hd hs hf hb hdep
    have hi : i < 14 := (Array.getElem?_eq_some_iff.1 ho).1
    match i, hi, ho with
    | 0, _, ho =>
      simp only [List.getElem?_toArray, List.getElem?_cons_zero, List.getElem?_cons_succ, Option.some.injEq] at ho
      subst ho
      have e8 : a.eval (.tmp 8) = .iface 49 (.int .i64 er) := ev_of ((hf 8 (fun j hj => by show 25 + j ≠ 8; omega)).trans rfl)
      exact reg_value (S := fun u_ w => u_ = .iface 49 (.int .i64 er)) (v := .iface 49 (.int .i64 er)) (w' := w) rfl (by simp only [execOp, e8]; go_simp) rfl (Below.refl _ _)
    | 1, _, ho =>
      simp only [List.getElem?_toArray, List.getElem?_cons_zero, List.getElem?_cons_succ, Option.some.injEq] at ho
      subst ho
      have t25 : a.tmps[25]? = some (.iface 49 (.int .i64 er)) := by obtain ⟨u_, h1, h2⟩ := hdep ⟨0, .data⟩ (by simp) rfl; rw [show u_ = .iface 49 (.int .i64 er) from h2] at h1; exact h1
      have e25 := ev_of t25
      exact reg_value (S := fun u_ w => u_ = .bool false) (v := .bool false) (w' := w) rfl (by simp only [execOp, e25]; go_simp) rfl (Below.refl _ _)
    | 2, _, ho =>
      simp only [List.getElem?_toArray, List.getElem?_cons_zero, List.getElem?_cons_succ, Option.some.injEq] at ho
      subst ho
      have t26 : a.tmps[26]? = some (.bool false) := by obtain ⟨u_, h1, h2⟩ := hdep ⟨1, .data⟩ (by simp) rfl; rw [show u_ = .bool false from h2] at h1; exact h1
      have e26 := ev_of t26
      exact reg_value (S := fun u_ w => u_ = .bool false) (v := .bool false) (w' := w) rfl (by simp only [execOp, e26]; go_simp) rfl (Below.refl _ _)
    | 3, _, ho =>
      simp only [List.getElem?_toArray, List.getElem?_cons_zero, List.getElem?_cons_succ, Option.some.injEq] at ho
      subst ho
      have t27 : a.tmps[27]? = some (.bool false) := by obtain ⟨u_, h1, h2⟩ := hdep ⟨2, .guard⟩ (by simp) rfl; rw [show u_ = .bool false from h2] at h1; exact h1
      have e27 := ev_of t27
      exact reg_skip (S := fun u_ w => u_ = undef) (wanted_of 2 true false false t27 rfl rfl rfl) rfl
    | 4, _, ho =>
      simp only [List.getElem?_toArray, List.getElem?_cons_zero, List.getElem?_cons_succ, Option.some.injEq] at ho
      subst ho
      have t27 : a.tmps[27]? = some (.bool false) := by obtain ⟨u_, h1, h2⟩ := hdep ⟨2, .guard⟩ (by simp) rfl; rw [show u_ = .bool false from h2] at h1; exact h1
      have e27 := ev_of t27
      exact reg_skip (S := fun u_ w => u_ = undef) (wanted_of 2 true false false t27 rfl rfl rfl) rfl
    | 5, _, ho =>
      simp only [List.getElem?_toArray, List.getElem?_cons_zero, List.getElem?_cons_succ, Option.some.injEq] at ho
      subst ho
      have t27 : a.tmps[27]? = some (.bool false) := by obtain ⟨u_, h1, h2⟩ := hdep ⟨2, .guard⟩ (by simp) rfl; rw [show u_ = .bool false from h2] at h1; exact h1
      have e27 := ev_of t27
      exact reg_skip (S := fun u_ w => u_ = undef) (wanted_of 2 true false false t27 rfl rfl rfl) rfl
    | 6, _, ho =>
      simp only [List.getElem?_toArray, List.getElem?_cons_zero, List.getElem?_cons_succ, Option.some.injEq] at ho
      subst ho
      have t27 : a.tmps[27]? = some (.bool false) := by obtain ⟨u_, h1, h2⟩ := hdep ⟨2, .guard⟩ (by simp) rfl; rw [show u_ = .bool false from h2] at h1; exact h1
      have e27 := ev_of t27
      exact reg_skip (S := fun u_ w => u_ = undef) (wanted_of 2 true false false t27 rfl rfl rfl) rfl
    | 7, _, ho =>
      simp only [List.getElem?_toArray, List.getElem?_cons_zero, List.getElem?_cons_succ, Option.some.injEq] at ho
      subst ho
      have t27 : a.tmps[27]? = some (.bool false) := by obtain ⟨u_, h1, h2⟩ := hdep ⟨2, .guard⟩ (by simp) rfl; rw [show u_ = .bool false from h2] at h1; exact h1
      have e27 := ev_of t27
      exact reg_skip (S := fun u_ w => u_ = undef) (wanted_of 2 true false false t27 rfl rfl rfl) rfl
    | 8, _, ho =>
      simp only [List.getElem?_toArray, List.getElem?_cons_zero, List.getElem?_cons_succ, Option.some.injEq] at ho
      subst ho
      have t27 : a.tmps[27]? = some (.bool false) := by obtain ⟨u_, h1, h2⟩ := hdep ⟨2, .guard⟩ (by simp) rfl; rw [show u_ = .bool false from h2] at h1; exact h1
      have e27 := ev_of t27
      exact reg_skip (S := fun u_ w => u_ = undef) (wanted_of 2 true false false t27 rfl rfl rfl) rfl
    | 9, _, ho =>
      simp only [List.getElem?_toArray, List.getElem?_cons_zero, List.getElem?_cons_succ, Option.some.injEq] at ho
      subst ho
      have t27 : a.tmps[27]? = some (.bool false) := by obtain ⟨u_, h1, h2⟩ := hdep ⟨2, .guard⟩ (by simp) rfl; rw [show u_ = .bool false from h2] at h1; exact h1
      have e27 := ev_of t27
      exact reg_skip (S := fun u_ w => u_ = undef) (wanted_of 2 true false false t27 rfl rfl rfl) rfl
    | 10, _, ho =>
      simp only [List.getElem?_toArray, List.getElem?_cons_zero, List.getElem?_cons_succ, Option.some.injEq] at ho
      subst ho
      have t27 : a.tmps[27]? = some (.bool false) := by obtain ⟨u_, h1, h2⟩ := hdep ⟨2, .guard⟩ (by simp) rfl; rw [show u_ = .bool false from h2] at h1; exact h1
      have e27 := ev_of t27
      exact reg_skip (S := fun u_ w => u_ = undef) (wanted_of 2 true false false t27 rfl rfl rfl) rfl
    | 11, _, ho =>
      simp only [List.getElem?_toArray, List.getElem?_cons_zero, List.getElem?_cons_succ, Option.some.injEq] at ho
      subst ho
      have t27 : a.tmps[27]? = some (.bool false) := by obtain ⟨u_, h1, h2⟩ := hdep ⟨2, .guard⟩ (by simp) rfl; rw [show u_ = .bool false from h2] at h1; exact h1
      have e27 := ev_of t27
      exact reg_skip (S := fun u_ w => u_ = undef) (wanted_of 2 true false false t27 rfl rfl rfl) rfl
    | 12, _, ho =>
      simp only [List.getElem?_toArray, List.getElem?_cons_zero, List.getElem?_cons_succ, Option.some.injEq] at ho
      subst ho
      have t27 : a.tmps[27]? = some (.bool false) := by obtain ⟨u_, h1, h2⟩ := hdep ⟨2, .guard⟩ (by simp) rfl; rw [show u_ = .bool false from h2] at h1; exact h1
      have e27 := ev_of t27
      exact reg_skip (S := fun u_ w => u_ = undef) (wanted_of 2 true false false t27 rfl rfl rfl) rfl
    | 13, _, ho =>
      simp only [List.getElem?_toArray, List.getElem?_cons_zero, List.getElem?_cons_succ, Option.some.injEq] at ho
      subst ho
      have t27 : a.tmps[27]? = some (.bool false) := by obtain ⟨u_, h1, h2⟩ := hdep ⟨2, .data⟩ (by simp) rfl; rw [show u_ = .bool false from h2] at h1; exact h1
      have e27 := ev_of t27
      have t37 : a.tmps[37]? = some (undef) := by obtain ⟨u_, h1, h2⟩ := hdep ⟨12, .data⟩ (by simp) rfl; rw [show u_ = undef from h2] at h1; exact h1
      have e37 := ev_of t37
      exact reg_value (S := fun u_ w => u_ = .bool false) (v := .bool false) (w' := w) rfl (by simp only [execOp, e27, e37]; go_simp) rfl (Below.refl _ _)
  case hend =>
    intro vs w hb hall
    have s0 : vs 0 = .iface 49 (.int .i64 er) := hall 0 (by omega)
    have s1 : vs 1 = .bool false := hall 1 (by omega)
    have s2 : vs 2 = .bool false := hall 2 (by omega)
    have s3 : vs 3 = undef := hall 3 (by omega)
    have s4 : vs 4 = undef := hall 4 (by omega)
    have s5 : vs 5 = undef := hall 5 (by omega)
    have s6 : vs 6 = undef := hall 6 (by omega)
    have s7 : vs 7 = undef := hall 7 (by omega)
    have s8 : vs 8 = undef := hall 8 (by omega)
    have s9 : vs 9 = undef := hall 9 (by omega)
    have s10 : vs 10 = undef := hall 10 (by omega)
    have s11 : vs 11 = undef := hall 11 (by omega)
    have s12 : vs 12 = undef := hall 12 (by omega)
    have s13 : vs 13 = .bool false := hall 13 (by omega)
    simp only [fillN, Act.put, s0, s1, s2, s3, s4, s5, s6, s7, s8, s9, s10, s11, s12, s13, List.setIfInBounds_toArray, List.set_cons_zero, List.set_cons_succ, Nat.reduceAdd]
    have hl1 : ((pn.length : Nat) : Int) ≥ 1 := by omega
    have hl2 : ((pn.length : Nat) : Int) ≤ 10 := by omega
    by_cases hq1 : n ≥ -64
    · by_cases hq2 : n < 64
      · have hq3 : ((pn.length : Nat) : Int) = 1 := by have := hps.1 ⟨hq1, hq2⟩; omega
        go_wp2
        go_ret; refine ⟨?_, HB.out.trans (Below.mono hb HB.out.size)⟩; simp [hl1, hl2, hq1, hq2, hq3]
      · have hq3 : ¬ ((pn.length : Nat) : Int) = 1 := fun h => hq2 (hps.2 (by omega)).2
        go_wp2
        go_ret; refine ⟨?_, HB.out.trans (Below.mono hb HB.out.size)⟩; simp [hl1, hl2, hq1, hq2, hq3]
    · have hq3 : ¬ ((pn.length : Nat) : Int) = 1 := fun h => hq1 (hps.2 (by omega)).1
      go_wp2
      go_ret; refine ⟨?_, HB.out.trans (Below.mono hb HB.out.size)⟩; simp [hl1, hl2, hq1, hq3]
theorem one_true (n : Int) (B : Option Addr) (cb : Nat) (lb : List Int) (w : World) (hB : Kd.C (Kd.int .u8) w B lb.length lb) (hcb : lb.length ≤ cb) (hn : I64 n) (bb : Bytes lb) (sb : lb.length ≤ 140737488355328) :
    Calls Try.prog 7 #[.slice B lb.length cb, .int .i64 n] w fun e w' => e = .returned (.bool true) ∧ Below w.heap.size w w' := by
  obtain ⟨K1, h1⟩ := large_comes (ls := [lb]) (fun l hl => by simp only [List.mem_singleton] at hl; subst hl; omega) (by simp)
  have h1 := h1 K1 (Nat.le_refl _)
  rw [show [lb].flatten = lb by simp] at h1
  have hs1 : ∀ x : Int, M.nums [x] = num x := fun x => by simp [M.nums]
  by_cases hlg : 131072 < lb.length
  · rw [decide_eq_true hlg] at h1
    exact one_large n B cb lb w hB hcb K1 h1
  · rw [decide_eq_false hlg] at h1
    obtain ⟨K2, h2⟩ := put_comes (acc := []) (l := [n]) (fun x hx => by simp only [List.mem_singleton] at hx; subst hx; exact hn) (by simp) (by simp)
    have h2 := h2 K2 (Nat.le_refl _)
    rw [List.nil_append, hs1] at h2
    have hp0 : 1 ≤ (num n).length := enc_pos _
    have hp1 := num_le hn
    have hps := (num_one n).symm
    rcases take1_comes bb (by omega) with ⟨K3, h3⟩ | ⟨v, r, hv, he, K3, h3⟩
    · have h3 := h3 K3 (Nat.le_refl _)
      exact one_none n B cb lb w hB hcb K1 K2 K3 h1 _ h2 hp0 hp1 hps _ _ _ h3
    · have h3 := h3 K3 (Nat.le_refl _)
      obtain ⟨K4, h4⟩ := put_comes (acc := []) (l := [v]) (fun x hx => by simp only [List.mem_singleton] at hx; subst hx; exact hv) (by simp) (by simp)
      have h4 := h4 K4 (Nat.le_refl _)
      rw [List.nil_append, hs1] at h4
      exact one_num n B cb lb w hB hcb K1 K2 K3 K4 h1 (by omega) _ h2 hp0 hp1 hps _ _ h3 _ h4 he.symm
end Go.Proofs.Ytbphmpncajfaiaa.K
