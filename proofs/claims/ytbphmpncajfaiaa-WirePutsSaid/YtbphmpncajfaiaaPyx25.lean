-- begun as a text of the kit's print.py, mended by hand
import Derived.Test.YtbphmpncajfaiaaK0

import Derived.Test.YtbphmpncajfaiaaPyx0
import Derived.Test.YtbphmpncajfaiaaPyx3
import Derived.Test.YtbphmpncajfaiaaPyx6
import Derived.Test.YtbphmpncajfaiaaPyx24
namespace Go.Proofs.Ytbphmpncajfaiaa.Py
open Go.Proofs.Ytbphmpncajfaiaa.K Go.RowKit Go.Proofs.YtbphmpncajfaiaaW.PrintWords Go.Proofs.YtbphmpncajfaiaaW.PrintLast Go.Proofs.YtbphmpncajfaiaaW.PrintMore
attribute [local go_sem] max2_int min2_int max_two min_two max_three min_three max_four min_four   -- for this text's walks alone
set_option linter.unusedVariables false
set_option linter.unusedSimpArgs false

/-! ### wire_Unbox: function 29 -/
def wire_Unbox.j0 : Nat → List Int → Bool → Option (List Int × Option Int)
  | 0, _, _ => none
  | k + 1, x0, x15 => if x15 = true then (some (([] : List Int), some 4)) else (if 4 < (x0.length : Int) then (if 5 < (x0.length : Int) then (if (Go.bits .or .i64 (wrap64 ((wrap64 (rd x0 4)) * 256)) (wrap64 (rd x0 5))) > (wrap64 ((x0.length : Int) - 6)) then (some (([] : List Int), some 4)) else (if 6 ≤ (wrap64 (6 + (Go.bits .or .i64 (wrap64 ((wrap64 (rd x0 4)) * 256)) (wrap64 (rd x0 5))))) then (if (wrap64 (6 + (Go.bits .or .i64 (wrap64 ((wrap64 (rd x0 4)) * 256)) (wrap64 (rd x0 5))))) ≤ (x0.length : Int) then ((slices_Clone_byte_byte.f ((x0.take ((wrap64 (6 + (Go.bits .or .i64 (wrap64 ((wrap64 (rd x0 4)) * 256)) (wrap64 (rd x0 5))))) : Int).toNat).drop 6)).bind fun t269 => ((wire_Box.f k (x0.length : Int) (([t269] : List (List Int)))).bind fun bt275 => (if bt275.2.isNone = true then ((bytes_Equal.f bt275.1 x0).bind fun t280 => (if t280 = true then (some (t269, none)) else (some (([] : List Int), some 4)))) else (some (([] : List Int), some 4))))) else (none)) else (none))) else (none)) else (none))
def wire_Unbox.f (k : Nat) (l0 : List Int) : Option (List Int × Option Int) := if (l0.length : Int) < 6 then (wire_Unbox.j0 k l0 true) else (wire_Unbox.j0 k l0 (decide ((l0.length : Int) > 65536)))
theorem wire_Unbox.mono_l : ∀ k, (∀ y0 y1, LeO (wire_Unbox.j0 k y0 y1) (wire_Unbox.j0 (k + 1) y0 y1))
  | 0 => fun _ _ r h => by simp [wire_Unbox.j0] at h
  | k + 1 => by
    have ih0 := wire_Unbox.mono_l k
    · intro y0 y1
      unfold wire_Unbox.j0
      repeat' first
      | (with_reducible exact ih0 _ _)
      | (with_reducible exact wire_Box.mono _ _ _)
      | (with_reducible exact LeO.refl _)
      | (with_reducible exact LeO.none _)
      | (with_reducible refine LeO.ite ?_ ?_)
      | (with_reducible refine LeO.bind ?_ (fun _ => ?_))
      | exact ih0 _ _
      | exact wire_Box.mono _ _ _
      | exact LeO.none _
      | refine LeO.ite ?_ ?_
      | refine LeO.bind ?_ (fun _ => ?_)
theorem wire_Unbox.mono : ∀ a0 k, LeO (wire_Unbox.f k a0) (wire_Unbox.f (k + 1) a0) := by
  intro a0 k
  have ih0 := wire_Unbox.mono_l k
  unfold wire_Unbox.f
  repeat' first
      | (with_reducible exact ih0 _ _)
      | (with_reducible exact wire_Box.mono _ _ _)
      | (with_reducible exact LeO.refl _)
      | (with_reducible exact LeO.none _)
      | (with_reducible refine LeO.ite ?_ ?_)
      | (with_reducible refine LeO.bind ?_ (fun _ => ?_))
      | exact ih0 _ _
      | exact wire_Box.mono _ _ _
      | exact LeO.none _
      | refine LeO.ite ?_ ?_
      | refine LeO.bind ?_ (fun _ => ?_)
set_option maxHeartbeats 8000000 in
set_option maxRecDepth 100000 in
theorem wire_Unbox.calls (k : Nat) (A0 : Option Addr) (c0 : Nat) (l0 : List Int) (r1 : List Int) (r2 : Option Int) (w : World) (hr0 : Kd.C (Kd.int .u8) w A0 l0.length l0) (hc0 : l0.length ≤ c0) (h : wire_Unbox.f k l0 = some (r1, r2)) :
    Calls Try.prog 29 #[.slice A0 l0.length c0] w fun e w' => ∃ v0_ : Value, e = .returned (.tuple #[v0_, errW r2]) ∧ Kd.R (Kd.int .u8) 5 w' w.heap.size (fun _ => True) v0_ r1 ∧ Below w.heap.size w w' := by
  have hu40 := Try.underlying40
  have hu49 := Try.underlying49
  have HR0 := Aside0.mk hr0
  have HC0 := Aside0.mk hc0
  clear hr0 hc0
  have HB := Aside0.mk (Below.refl w.heap.size w)
  have H : (if (l0.length : Int) < 6 then (wire_Unbox.j0 k l0 true) else (wire_Unbox.j0 k l0 (decide ((l0.length : Int) > 65536)))) = some (r1, r2) := h
  clear h
  have HC2 := Aside0.mk H
  clear H
  go_enter Try.func29, Try.ntmps29
  go_upto_region 1 with (fail)
  repeat (go_quiet (fail); go_upto_region 1 with (fail))
  go_cut [15] (fun v15 wc => ∃ (kq : Nat) (x15_1 : Bool), v15 = .bool x15_1 ∧ Aside0 (wire_Unbox.j0 kq l0 x15_1 = some (r1, r2)) ∧ Aside0 (kq ≤ k) ∧ Aside0 (Below w.heap.size w wc))
  case first =>
    have H := HC2.out
    clear HC2
    by_cases c3 : (l0.length : Int) < 6
    · rw [if_pos c3] at H
      have c3b0 : decide ((l0.length : Int) < 6) = true := decide_eq_true c3
      have c3b1 : decide (l0.length < 6) = true := decide_eq_true (by omega)
      clear c3
      (first | rw [c3b0] | (simp only [i64_w, i32_w]; rw [c3b0]) | skip)
      have H' := Aside0.mk H
      clear H
      go_wp2
      repeat (go_quiet (fail); try go_wp2)
      go_meet
      case rel => exact ⟨_, (true), (by first | rfl | (simp; done) | (simp [*]; done)), H', ⟨by first | omega | exact Nat.le_refl _⟩, ⟨by repeat (first | (with_reducible first | exact HB.out | apply below_alloc | apply pw_below_drewN | apply below_drew1) | exact HB.out)⟩⟩
    · rw [if_neg c3] at H
      have c3b0 : decide ((l0.length : Int) < 6) = false := decide_eq_false c3
      have c3b1 : decide (l0.length < 6) = false := decide_eq_false (by omega)
      clear c3
      (first | rw [c3b0] | (simp only [i64_w, i32_w]; rw [c3b0]) | skip)
      have H' := Aside0.mk H
      clear H
      go_wp2
      repeat (go_quiet (fail); try go_wp2)
      go_meet
      case rel => exact ⟨_, (decide ((l0.length : Int) > 65536)), (by first | rfl | (simp; done) | (simp [*]; done)), H', ⟨by first | omega | exact Nat.le_refl _⟩, ⟨by repeat (first | (with_reducible first | exact HB.out | apply below_alloc | apply pw_below_drewN | apply below_drew1) | exact HB.out)⟩⟩
  case rest =>
    clear HC2
    try clear c2
    try clear p2
    try clear c3
    try clear c3b0
    try clear c3b1
    obtain ⟨kq, x15_1, rfl, HA, HJ1, HB⟩ := hcut
    cases kq with
    | zero => exact absurd HA.out (by simp [wire_Unbox.j0])
    | succ kj1 =>
      have H := HA.out
      clear HA
      simp only [wire_Unbox.j0] at H
      by_cases c4 : x15_1 = true
      · subst c4
        have H1 : (some (([] : List Int), some 4)) = some (r1, r2) := by rw [if_pos rfl] at H; exact H
        clear H
        have H := H1
        clear H1
        simp only [Option.some.injEq, Prod.mk.injEq] at H
        obtain ⟨rfl, rfl⟩ := H
        go_wp2
        repeat (go_quiet (fail); try go_wp2)
        go_ret2
        exact ⟨_, by first | rfl | (simp [errW_none, errW_some] <;> rfl) | (simp [*, errW_none, errW_some] <;> rfl), by first | exact Kd.R_nil _ _ _ _ _ | exact Kd.N_nil _ _ _ _ _ | exact Kd.V_nil _ _ _ _ _ | exact Kd.Q_nil _ _ _ _ _ | exact Kd.S_nil _ _ _ _ _, by repeat (first | (with_reducible first | exact HB.out | apply below_alloc | apply pw_below_drewN | apply below_drew1) | exact HB.out)⟩
      · replace c4 := Bool.eq_false_iff.mpr c4
        subst c4
        have H1 : (if 4 < (l0.length : Int) then (if 5 < (l0.length : Int) then (if (Go.bits .or .i64 (wrap64 ((wrap64 (rd l0 4)) * 256)) (wrap64 (rd l0 5))) > (wrap64 ((l0.length : Int) - 6)) then (some (([] : List Int), some 4)) else (if 6 ≤ (wrap64 (6 + (Go.bits .or .i64 (wrap64 ((wrap64 (rd l0 4)) * 256)) (wrap64 (rd l0 5))))) then (if (wrap64 (6 + (Go.bits .or .i64 (wrap64 ((wrap64 (rd l0 4)) * 256)) (wrap64 (rd l0 5))))) ≤ (l0.length : Int) then ((slices_Clone_byte_byte.f ((l0.take ((wrap64 (6 + (Go.bits .or .i64 (wrap64 ((wrap64 (rd l0 4)) * 256)) (wrap64 (rd l0 5))))) : Int).toNat).drop 6)).bind fun t269 => ((wire_Box.f kj1 (l0.length : Int) (([t269] : List (List Int)))).bind fun bt275 => (if bt275.2.isNone = true then ((bytes_Equal.f bt275.1 l0).bind fun t280 => (if t280 = true then (some (t269, none)) else (some (([] : List Int), some 4)))) else (some (([] : List Int), some 4))))) else (none)) else (none))) else (none)) else (none)) = some (r1, r2) := by rw [if_neg (show ¬ (false = true) by decide)] at H; exact H
        clear H
        have H := H1
        clear H1
        by_cases c5 : 4 < (l0.length : Int)
        · rw [if_pos c5] at H
          have c5b0 : decide (4 < (l0.length : Int)) = true := decide_eq_true c5
          have c5b1 : decide (4 < l0.length) = true := decide_eq_true (by omega)
          clear c5
          by_cases c6 : 5 < (l0.length : Int)
          · rw [if_pos c6] at H
            have c6b0 : decide (5 < (l0.length : Int)) = true := decide_eq_true c6
            have c6b1 : decide (5 < l0.length) = true := decide_eq_true (by omega)
            clear c6
            by_cases c7 : (Go.bits .or .i64 (wrap64 ((wrap64 (rd l0 4)) * 256)) (wrap64 (rd l0 5))) > (wrap64 ((l0.length : Int) - 6))
            · rw [if_pos c7] at H
              have c7b0 : decide ((wrap64 ((l0.length : Int) - 6)) < (Go.bits .or .i64 (wrap64 ((wrap64 (rd l0 4)) * 256)) (wrap64 (rd l0 5)))) = true := decide_eq_true c7
              clear c7
              simp only [Option.some.injEq, Prod.mk.injEq] at H
              obtain ⟨rfl, rfl⟩ := H
              have p266 : 0 ≤ (4 : Int) := (by omega)
              have q266 : 4 < (l0.length : Int) := of_decide_eq_true (by first | (with_reducible assumption) | assumption)
              obtain ⟨ad266, e266, hx266_0⟩ := Kd.at_int HR0.out 4 p266 q266
              cases e266
              (try simp only [show (4 : Int).toNat = 4 from rfl, Nat.reduceMul, Nat.reduceEqDiff, Go.Addr.add, ↓reduceIte] at hx266_0)
              have qi266 : (4 < l0.length) = True := eq_true (by omega)
              (try rw [show ((4 : Int)).toNat = 4 from rfl] at hx266_0)
              replace hx266_0 := (HB.out.cell (World.block_lt_of_cell? w _ hx266_0)).trans hx266_0
              replace p266 := eq_true p266
              replace q266 := eq_true q266
              have p267 : 0 ≤ (5 : Int) := (by omega)
              have q267 : 5 < (l0.length : Int) := of_decide_eq_true (by first | (with_reducible assumption) | assumption)
              obtain ⟨ad267, e267, hx267_0⟩ := Kd.at_int HR0.out 5 p267 q267
              obtain rfl : ad266 = ad267 := (by injection e267)
              (try simp only [show (5 : Int).toNat = 5 from rfl, Nat.reduceMul, Nat.reduceEqDiff, Go.Addr.add, ↓reduceIte] at hx267_0)
              have qi267 : (5 < l0.length) = True := eq_true (by omega)
              (try rw [show ((5 : Int)).toNat = 5 from rfl] at hx267_0)
              replace hx267_0 := (HB.out.cell (World.block_lt_of_cell? w _ hx267_0)).trans hx267_0
              replace p267 := eq_true p267
              replace q267 := eq_true q267
              go_wp2
              repeat (go_quiet (fail); try go_wp2)
              go_ret2
              exact ⟨_, by first | rfl | (simp [errW_none, errW_some] <;> rfl) | (simp [*, errW_none, errW_some] <;> rfl), by first | exact Kd.R_nil _ _ _ _ _ | exact Kd.N_nil _ _ _ _ _ | exact Kd.V_nil _ _ _ _ _ | exact Kd.Q_nil _ _ _ _ _ | exact Kd.S_nil _ _ _ _ _, by repeat (first | (with_reducible first | exact HB.out | apply below_alloc | apply pw_below_drewN | apply below_drew1) | exact HB.out)⟩
            · rw [if_neg c7] at H
              have c7b0 : decide ((wrap64 ((l0.length : Int) - 6)) < (Go.bits .or .i64 (wrap64 ((wrap64 (rd l0 4)) * 256)) (wrap64 (rd l0 5)))) = false := decide_eq_false c7
              clear c7
              by_cases c8 : 6 ≤ (wrap64 (6 + (Go.bits .or .i64 (wrap64 ((wrap64 (rd l0 4)) * 256)) (wrap64 (rd l0 5)))))
              · rw [if_pos c8] at H
                have c8b0 := eq_true c8
                have c8b1 : decide (6 ≤ (wrap64 (6 + (Go.bits .or .i64 (wrap64 ((wrap64 (rd l0 4)) * 256)) (wrap64 (rd l0 5)))))) = true := decide_eq_true c8
                by_cases c9 : (wrap64 (6 + (Go.bits .or .i64 (wrap64 ((wrap64 (rd l0 4)) * 256)) (wrap64 (rd l0 5))))) ≤ (l0.length : Int)
                · rw [if_pos c9] at H
                  have c9b0 := eq_true c9
                  have c9b1 : decide ((wrap64 (6 + (Go.bits .or .i64 (wrap64 ((wrap64 (rd l0 4)) * 256)) (wrap64 (rd l0 5))))) ≤ (l0.length : Int)) = true := decide_eq_true c9
                  replace H := Option.bind_eq_some_iff.mp H
                  obtain ⟨t269, A100, H⟩ := H
                  replace H : ((wire_Box.f kj1 (l0.length : Int) (([t269] : List (List Int)))).bind fun bt275 => (if bt275.2.isNone = true then ((bytes_Equal.f bt275.1 l0).bind fun t280 => (if t280 = true then (some (t269, none)) else (some (([] : List Int), some 4)))) else (some (([] : List Int), some 4)))) = some (r1, r2) := H
                  have A10 := Aside0.mk A100
                  clear A100
                  obtain ⟨y272, hy272⟩ : ∃ y_ : List (List Int), y_ = (([t269] : List (List Int))) := ⟨_, rfl⟩
                  replace H : ((wire_Box.f kj1 (l0.length : Int) y272).bind fun bt275 => (if bt275.2.isNone = true then ((bytes_Equal.f bt275.1 l0).bind fun t280 => (if t280 = true then (some (t269, none)) else (some (([] : List Int), some 4)))) else (some (([] : List Int), some 4)))) = some (r1, r2) := by first | (rw [hy272]; with_reducible exact H) | (have H2_ := (Option.bind_some _ _).symm.trans H; rw [hy272]; with_reducible exact H2_) | (have H2_ := (Option.bind_some _ _).symm.trans H; with_reducible exact H2_) | with_reducible exact H | (rw [hy272]; exact H) | exact H
                  have Ny272 := Aside0.mk hy272
                  clear hy272
                  replace H := Option.bind_eq_some_iff.mp H
                  obtain ⟨⟨t275, t276⟩, A110, H⟩ := H
                  replace H : (if t276.isNone = true then ((bytes_Equal.f t275 l0).bind fun t280 => (if t280 = true then (some (t269, none)) else (some (([] : List Int), some 4)))) else (some (([] : List Int), some 4))) = some (r1, r2) := H
                  have A11 := Aside0.mk A110
                  clear A110
                  rcases t276 with _ | q279
                  · have H1 : ((bytes_Equal.f t275 l0).bind fun t280 => (if t280 = true then (some (t269, none)) else (some (([] : List Int), some 4)))) = some (r1, r2) := by rw [if_pos (show (none : Option Int).isNone = true by rfl)] at H; exact H
                    clear H
                    have H := H1
                    clear H1
                    try simp only [errW_none, errW_some]
                    replace H := Option.bind_eq_some_iff.mp H
                    obtain ⟨t280, A120, H⟩ := H
                    replace H : (if t280 = true then (some (t269, none)) else (some (([] : List Int), some 4))) = some (r1, r2) := H
                    have A12 := Aside0.mk A120
                    clear A120
                    by_cases c13 : t280 = true
                    · subst c13
                      have H1 : (some (t269, none)) = some (r1, r2) := by rw [if_pos rfl] at H; exact H
                      clear H
                      have H := H1
                      clear H1
                      simp only [Option.some.injEq, Prod.mk.injEq] at H
                      obtain ⟨rfl, rfl⟩ := H
                      have p266 : 0 ≤ (4 : Int) := (by omega)
                      have q266 : 4 < (l0.length : Int) := of_decide_eq_true (by first | (with_reducible assumption) | assumption)
                      obtain ⟨ad266, e266, hx266_0⟩ := Kd.at_int HR0.out 4 p266 q266
                      cases e266
                      (try simp only [show (4 : Int).toNat = 4 from rfl, Nat.reduceMul, Nat.reduceEqDiff, Go.Addr.add, ↓reduceIte] at hx266_0)
                      have qi266 : (4 < l0.length) = True := eq_true (by omega)
                      (try rw [show ((4 : Int)).toNat = 4 from rfl] at hx266_0)
                      replace hx266_0 := (HB.out.cell (World.block_lt_of_cell? w _ hx266_0)).trans hx266_0
                      replace p266 := eq_true p266
                      replace q266 := eq_true q266
                      have p267 : 0 ≤ (5 : Int) := (by omega)
                      have q267 : 5 < (l0.length : Int) := of_decide_eq_true (by first | (with_reducible assumption) | assumption)
                      obtain ⟨ad267, e267, hx267_0⟩ := Kd.at_int HR0.out 5 p267 q267
                      obtain rfl : ad266 = ad267 := (by injection e267)
                      (try simp only [show (5 : Int).toNat = 5 from rfl, Nat.reduceMul, Nat.reduceEqDiff, Go.Addr.add, ↓reduceIte] at hx267_0)
                      have qi267 : (5 < l0.length) = True := eq_true (by omega)
                      (try rw [show ((5 : Int)).toNat = 5 from rfl] at hx267_0)
                      replace hx267_0 := (HB.out.cell (World.block_lt_of_cell? w _ hx267_0)).trans hx267_0
                      replace p267 := eq_true p267
                      replace q267 := eq_true q267
                      obtain ⟨i014, hi014, _, hsz14, _⟩ := info_parts info5
                      obtain ⟨A14, hcut14, hA14, hC14⟩ := print_mid_of (P := Try.prog) (Value.int .u8) 0 22 5 .i64 .i64 Try.underlying22 hi014 hsz14 (some ad266) c0 l0 6 (wrap64 (6 + (Go.bits .or .i64 (wrap64 ((wrap64 (rd l0 4)) * 256)) (wrap64 (rd l0 5))))) (by omega) (by first | omega | exact of_decide_eq_true (by first | (with_reducible assumption) | assumption)) (of_decide_eq_true (by first | (with_reducible assumption) | assumption)) HC0.out
                      have HR268 := Aside0.mk (Kd.C_of_reads (h1 := fun _ => rfl) (hA14 _ (Kd.reads_of_C HR0.out)))
                      have HC268 := Aside0.mk hC14
                      clear hA14 hC14 hi014 hsz14
                      simp only [show (6 : Int).toNat = 6 from rfl] at hcut14 HR268 HC268
                      generalize (l0.take ((wrap64 (6 + (Go.bits .or .i64 (wrap64 ((wrap64 (rd l0 4)) * 256)) (wrap64 (rd l0 5))))) : Int).toNat).drop 6 = l6 at hcut14 HR268 HC268 A10
                      go_wp2
                      go_quiet (fail)
                      go_wp2_with (first | (go_at_call 50; ((with_reducible refine (slices_Clone_byte_byte.calls _ _ l6 t269 _ ?side1 ?side2 A10.out).mono ?_); (case side1 => exact Kd.C_drewN (Kd.C_below HR268.out HB.out) _); (case side2 => exact HC268.out); rintro e w15 ⟨v270, rfl, ho0, hb⟩; have HO271 := Aside0.mk (Kd.R_lower ho0 (below_size (pw_below_drewN HB.out _))); have HB15 := Aside0.mk (below_step (pw_below_drewN HB.out _) hb); clear ho0 hb; obtain ⟨Ao16, co16, eo16⟩ := Kd.R_slice HO271.out; subst eo16)) | ((with_reducible refine gate_dst (N := 42) rfl ?_); refine Kd.R_lit (w0 := w) (Kd.slice 5 (Kd.int .u8)) w.heap.size 22 ?hg (N := 42) ?hd (xs := [t269]) (inner := [.slice Ao16 t269.length co16]) (ok := fun _ => True) (okp := fun _ => True) ?hr ?hp (fun _ hk => hk) trivial HB15.out (below_size HB15.out) (by simp) ?_; (case hd => rfl); (case hg => rfl); (case hr => first | (go_simp; done) | (go_simp; rfl)); (case hp => exact Reps.one ⟨_, rfl, HO271.out⟩ (Reps.none _ _)); intro v273 w17 ho18 hb hg_ hnew_; rw [← Ny272.out] at ho18; have HO274 := Aside0.mk ho18; have HB17 := Aside0.mk hb; have HO271' := Aside0.mk (Kd.R_grown HO271.out hg_ (fun _ _ hk => by cases hk)); clear ho18 hb hg_ hnew_; obtain ⟨Ao19, co19, eo19⟩ := Kd.R_slice HO274.out; subst eo19) | (go_at_call 26; ((with_reducible refine (wire_Box.calls kj1 (l0.length : Int) _ _ y272 t275 none _ ?side1 ?side2 A11.out).mono ?_); (case side1 => exact (Kd.R_reads' HO274.out).2.2); (case side2 => exact (Kd.R_reads' HO274.out).2.1); rintro e w20 ⟨v277, rfl, ho0, hb⟩; have HO278 := Aside0.mk ho0; have HO271'' := Aside0.mk (Kd.R_below HO271'.out hb); have HB20 := Aside0.mk (below_step HB17.out hb); clear ho0 hb; (try simp only [errW_none, errW_some]); obtain ⟨Ao21, co21, eo21⟩ := Kd.R_slice HO278.out; subst eo21)) | (go_at_call 52; (with_reducible refine (bytes_Equal.calls _ _ t275 _ _ l0 true _ ?side1 ?side2 ?side3 ?side4 A12.out).mono ?_); (case side1 => exact (Kd.R_reads' HO278.out).2.2); (case side2 => exact (Kd.R_reads' HO278.out).2.1); (case side3 => exact Kd.C_below HR0.out HB20.out); (case side4 => exact HC0.out); rintro e w' ⟨rfl, ⟨nd, rfl⟩⟩))
                      go_ret2
                      exact ⟨_, rfl, Kd.R_drewN HO271''.out _, pw_below_drewN HB20.out _⟩
                    · replace c13 := Bool.eq_false_iff.mpr c13
                      subst c13
                      have H1 : (some (([] : List Int), some 4)) = some (r1, r2) := by rw [if_neg (show ¬ (false = true) by decide)] at H; exact H
                      clear H
                      have H := H1
                      clear H1
                      simp only [Option.some.injEq, Prod.mk.injEq] at H
                      obtain ⟨rfl, rfl⟩ := H
                      have p266 : 0 ≤ (4 : Int) := (by omega)
                      have q266 : 4 < (l0.length : Int) := of_decide_eq_true (by first | (with_reducible assumption) | assumption)
                      obtain ⟨ad266, e266, hx266_0⟩ := Kd.at_int HR0.out 4 p266 q266
                      cases e266
                      (try simp only [show (4 : Int).toNat = 4 from rfl, Nat.reduceMul, Nat.reduceEqDiff, Go.Addr.add, ↓reduceIte] at hx266_0)
                      have qi266 : (4 < l0.length) = True := eq_true (by omega)
                      (try rw [show ((4 : Int)).toNat = 4 from rfl] at hx266_0)
                      replace hx266_0 := (HB.out.cell (World.block_lt_of_cell? w _ hx266_0)).trans hx266_0
                      replace p266 := eq_true p266
                      replace q266 := eq_true q266
                      have p267 : 0 ≤ (5 : Int) := (by omega)
                      have q267 : 5 < (l0.length : Int) := of_decide_eq_true (by first | (with_reducible assumption) | assumption)
                      obtain ⟨ad267, e267, hx267_0⟩ := Kd.at_int HR0.out 5 p267 q267
                      obtain rfl : ad266 = ad267 := (by injection e267)
                      (try simp only [show (5 : Int).toNat = 5 from rfl, Nat.reduceMul, Nat.reduceEqDiff, Go.Addr.add, ↓reduceIte] at hx267_0)
                      have qi267 : (5 < l0.length) = True := eq_true (by omega)
                      (try rw [show ((5 : Int)).toNat = 5 from rfl] at hx267_0)
                      replace hx267_0 := (HB.out.cell (World.block_lt_of_cell? w _ hx267_0)).trans hx267_0
                      replace p267 := eq_true p267
                      replace q267 := eq_true q267
                      obtain ⟨i022, hi022, _, hsz22, _⟩ := info_parts info5
                      obtain ⟨A22, hcut22, hA22, hC22⟩ := print_mid_of (P := Try.prog) (Value.int .u8) 0 22 5 .i64 .i64 Try.underlying22 hi022 hsz22 (some ad266) c0 l0 6 (wrap64 (6 + (Go.bits .or .i64 (wrap64 ((wrap64 (rd l0 4)) * 256)) (wrap64 (rd l0 5))))) (by omega) (by first | omega | exact of_decide_eq_true (by first | (with_reducible assumption) | assumption)) (of_decide_eq_true (by first | (with_reducible assumption) | assumption)) HC0.out
                      have HR268 := Aside0.mk (Kd.C_of_reads (h1 := fun _ => rfl) (hA22 _ (Kd.reads_of_C HR0.out)))
                      have HC268 := Aside0.mk hC22
                      clear hA22 hC22 hi022 hsz22
                      simp only [show (6 : Int).toNat = 6 from rfl] at hcut22 HR268 HC268
                      generalize (l0.take ((wrap64 (6 + (Go.bits .or .i64 (wrap64 ((wrap64 (rd l0 4)) * 256)) (wrap64 (rd l0 5))))) : Int).toNat).drop 6 = l6 at hcut22 HR268 HC268 A10
                      go_wp2
                      go_quiet (fail)
                      go_wp2_with (first | (go_at_call 50; ((with_reducible refine (slices_Clone_byte_byte.calls _ _ l6 t269 _ ?side1 ?side2 A10.out).mono ?_); (case side1 => exact Kd.C_drewN (Kd.C_below HR268.out HB.out) _); (case side2 => exact HC268.out); rintro e w15 ⟨v270, rfl, ho0, hb⟩; have HO271 := Aside0.mk (Kd.R_lower ho0 (below_size (pw_below_drewN HB.out _))); have HB15 := Aside0.mk (below_step (pw_below_drewN HB.out _) hb); clear ho0 hb; obtain ⟨Ao16, co16, eo16⟩ := Kd.R_slice HO271.out; subst eo16)) | ((with_reducible refine gate_dst (N := 42) rfl ?_); refine Kd.R_lit (w0 := w) (Kd.slice 5 (Kd.int .u8)) w.heap.size 22 ?hg (N := 42) ?hd (xs := [t269]) (inner := [.slice Ao16 t269.length co16]) (ok := fun _ => True) (okp := fun _ => True) ?hr ?hp (fun _ hk => hk) trivial HB15.out (below_size HB15.out) (by simp) ?_; (case hd => rfl); (case hg => rfl); (case hr => first | (go_simp; done) | (go_simp; rfl)); (case hp => exact Reps.one ⟨_, rfl, HO271.out⟩ (Reps.none _ _)); intro v273 w17 ho18 hb hg_ hnew_; rw [← Ny272.out] at ho18; have HO274 := Aside0.mk ho18; have HB17 := Aside0.mk hb; have HO271' := Aside0.mk (Kd.R_grown HO271.out hg_ (fun _ _ hk => by cases hk)); clear ho18 hb hg_ hnew_; obtain ⟨Ao19, co19, eo19⟩ := Kd.R_slice HO274.out; subst eo19) | (go_at_call 26; ((with_reducible refine (wire_Box.calls kj1 (l0.length : Int) _ _ y272 t275 none _ ?side1 ?side2 A11.out).mono ?_); (case side1 => exact (Kd.R_reads' HO274.out).2.2); (case side2 => exact (Kd.R_reads' HO274.out).2.1); rintro e w20 ⟨v277, rfl, ho0, hb⟩; have HO278 := Aside0.mk ho0; have HO271'' := Aside0.mk (Kd.R_below HO271'.out hb); have HB20 := Aside0.mk (below_step HB17.out hb); clear ho0 hb; (try simp only [errW_none, errW_some]); obtain ⟨Ao21, co21, eo21⟩ := Kd.R_slice HO278.out; subst eo21)) | (go_at_call 52; (with_reducible refine (bytes_Equal.calls _ _ t275 _ _ l0 false _ ?side1 ?side2 ?side3 ?side4 A12.out).mono ?_); (case side1 => exact (Kd.R_reads' HO278.out).2.2); (case side2 => exact (Kd.R_reads' HO278.out).2.1); (case side3 => exact Kd.C_below HR0.out HB20.out); (case side4 => exact HC0.out); rintro e w' ⟨rfl, ⟨nd, rfl⟩⟩))
                      go_ret2
                      exact ⟨_, rfl, Kd.R_nil _ _ _ _ _, pw_below_drewN HB20.out _⟩
                  · have H1 : (some (([] : List Int), some 4)) = some (r1, r2) := by rw [if_neg (show ¬ (some q279).isNone = true by simp)] at H; exact H
                    clear H
                    have H := H1
                    clear H1
                    try simp only [errW_none, errW_some]
                    simp only [Option.some.injEq, Prod.mk.injEq] at H
                    obtain ⟨rfl, rfl⟩ := H
                    have p266 : 0 ≤ (4 : Int) := (by omega)
                    have q266 : 4 < (l0.length : Int) := of_decide_eq_true (by first | (with_reducible assumption) | assumption)
                    obtain ⟨ad266, e266, hx266_0⟩ := Kd.at_int HR0.out 4 p266 q266
                    cases e266
                    (try simp only [show (4 : Int).toNat = 4 from rfl, Nat.reduceMul, Nat.reduceEqDiff, Go.Addr.add, ↓reduceIte] at hx266_0)
                    have qi266 : (4 < l0.length) = True := eq_true (by omega)
                    (try rw [show ((4 : Int)).toNat = 4 from rfl] at hx266_0)
                    replace hx266_0 := (HB.out.cell (World.block_lt_of_cell? w _ hx266_0)).trans hx266_0
                    replace p266 := eq_true p266
                    replace q266 := eq_true q266
                    have p267 : 0 ≤ (5 : Int) := (by omega)
                    have q267 : 5 < (l0.length : Int) := of_decide_eq_true (by first | (with_reducible assumption) | assumption)
                    obtain ⟨ad267, e267, hx267_0⟩ := Kd.at_int HR0.out 5 p267 q267
                    obtain rfl : ad266 = ad267 := (by injection e267)
                    (try simp only [show (5 : Int).toNat = 5 from rfl, Nat.reduceMul, Nat.reduceEqDiff, Go.Addr.add, ↓reduceIte] at hx267_0)
                    have qi267 : (5 < l0.length) = True := eq_true (by omega)
                    (try rw [show ((5 : Int)).toNat = 5 from rfl] at hx267_0)
                    replace hx267_0 := (HB.out.cell (World.block_lt_of_cell? w _ hx267_0)).trans hx267_0
                    replace p267 := eq_true p267
                    replace q267 := eq_true q267
                    obtain ⟨i030, hi030, _, hsz30, _⟩ := info_parts info5
                    obtain ⟨A30, hcut30, hA30, hC30⟩ := print_mid_of (P := Try.prog) (Value.int .u8) 0 22 5 .i64 .i64 Try.underlying22 hi030 hsz30 (some ad266) c0 l0 6 (wrap64 (6 + (Go.bits .or .i64 (wrap64 ((wrap64 (rd l0 4)) * 256)) (wrap64 (rd l0 5))))) (by omega) (by first | omega | exact of_decide_eq_true (by first | (with_reducible assumption) | assumption)) (of_decide_eq_true (by first | (with_reducible assumption) | assumption)) HC0.out
                    have HR268 := Aside0.mk (Kd.C_of_reads (h1 := fun _ => rfl) (hA30 _ (Kd.reads_of_C HR0.out)))
                    have HC268 := Aside0.mk hC30
                    clear hA30 hC30 hi030 hsz30
                    simp only [show (6 : Int).toNat = 6 from rfl] at hcut30 HR268 HC268
                    generalize (l0.take ((wrap64 (6 + (Go.bits .or .i64 (wrap64 ((wrap64 (rd l0 4)) * 256)) (wrap64 (rd l0 5))))) : Int).toNat).drop 6 = l6 at hcut30 HR268 HC268 A10
                    go_wp2
                    go_quiet (fail)
                    go_wp2_with (first | (go_at_call 50; ((with_reducible refine (slices_Clone_byte_byte.calls _ _ l6 t269 _ ?side1 ?side2 A10.out).mono ?_); (case side1 => exact Kd.C_drewN (Kd.C_below HR268.out HB.out) _); (case side2 => exact HC268.out); rintro e w15 ⟨v270, rfl, ho0, hb⟩; have HO271 := Aside0.mk (Kd.R_lower ho0 (below_size (pw_below_drewN HB.out _))); have HB15 := Aside0.mk (below_step (pw_below_drewN HB.out _) hb); clear ho0 hb; obtain ⟨Ao16, co16, eo16⟩ := Kd.R_slice HO271.out; subst eo16)) | ((with_reducible refine gate_dst (N := 42) rfl ?_); refine Kd.R_lit (w0 := w) (Kd.slice 5 (Kd.int .u8)) w.heap.size 22 ?hg (N := 42) ?hd (xs := [t269]) (inner := [.slice Ao16 t269.length co16]) (ok := fun _ => True) (okp := fun _ => True) ?hr ?hp (fun _ hk => hk) trivial HB15.out (below_size HB15.out) (by simp) ?_; (case hd => rfl); (case hg => rfl); (case hr => first | (go_simp; done) | (go_simp; rfl)); (case hp => exact Reps.one ⟨_, rfl, HO271.out⟩ (Reps.none _ _)); intro v273 w17 ho18 hb hg_ hnew_; rw [← Ny272.out] at ho18; have HO274 := Aside0.mk ho18; have HB17 := Aside0.mk hb; have HO271' := Aside0.mk (Kd.R_grown HO271.out hg_ (fun _ _ hk => by cases hk)); clear ho18 hb hg_ hnew_; obtain ⟨Ao19, co19, eo19⟩ := Kd.R_slice HO274.out; subst eo19) | (go_at_call 26; ((with_reducible refine (wire_Box.calls kj1 (l0.length : Int) _ _ y272 t275 (some q279) _ ?side1 ?side2 A11.out).mono ?_); (case side1 => exact (Kd.R_reads' HO274.out).2.2); (case side2 => exact (Kd.R_reads' HO274.out).2.1); rintro e w20 ⟨v277, rfl, ho0, hb⟩; have HO278 := Aside0.mk ho0; have HO271'' := Aside0.mk (Kd.R_below HO271'.out hb); have HB20 := Aside0.mk (below_step HB17.out hb); clear ho0 hb; (try simp only [errW_none, errW_some]); obtain ⟨Ao21, co21, eo21⟩ := Kd.R_slice HO278.out; subst eo21)))
                    go_ret2
                    exact ⟨_, rfl, Kd.R_nil _ _ _ _ _, HB20.out⟩
                · rw [if_neg c9] at H
                  exact absurd H (by simp)
              · rw [if_neg c8] at H
                exact absurd H (by simp)
          · rw [if_neg c6] at H
            exact absurd H (by simp)
        · rw [if_neg c5] at H
          exact absurd H (by simp)

end Go.Proofs.Ytbphmpncajfaiaa.Py
