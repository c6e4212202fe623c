-- begun as a text of the kit's print.py, mended by hand
import Derived.Test.YtbphmpncajfaiaaPyx0
import Derived.Test.YtbphmpncajfaiaaPyx22
namespace Go.Proofs.Ytbphmpncajfaiaa.Py
open Go.RowKit Go.Proofs.YtbphmpncajfaiaaW.PrintWords Go.Proofs.YtbphmpncajfaiaaW.PrintLast Go.Proofs.YtbphmpncajfaiaaW.PrintMore
attribute [local go_sem] max2_int min2_int max_two min_two max_three min_three max_four min_four   -- for this text's walks alone
set_option linter.unusedVariables false
set_option linter.unusedSimpArgs false

/-! ### palimpsestref02_Unbox: function 30 -/
def palimpsestref02_Unbox.f (k : Nat) (l0 : List Int) : Option (List Int × Bool) := if (l0.length : Int) < 6 then (some (([] : List Int), false)) else (if 4 < (l0.length : Int) then (if 5 < (l0.length : Int) then (if (wrap64 ((wrap64 (256 * (wrap64 (rd l0 4)))) + (wrap64 (rd l0 5)))) > (wrap64 ((l0.length : Int) - 6)) then (some (([] : List Int), false)) else (if 6 ≤ (wrap64 (6 + (wrap64 ((wrap64 (256 * (wrap64 (rd l0 4)))) + (wrap64 (rd l0 5)))))) then (if (wrap64 (6 + (wrap64 ((wrap64 (256 * (wrap64 (rd l0 4)))) + (wrap64 (rd l0 5)))))) ≤ (l0.length : Int) then ((palimpsestref02_Box.f k (l0.length : Int) ((l0.take ((wrap64 (6 + (wrap64 ((wrap64 (256 * (wrap64 (rd l0 4)))) + (wrap64 (rd l0 5)))))) : Int).toNat).drop 6)).bind fun bt284 => (if bt284.2 = 0 then (if (strOfNums bt284.1).toList = (strOfNums l0).toList then ((some (([] : List Int) : List Int)).bind fun y288 => (if y288.length + ((l0.take ((wrap64 (6 + (wrap64 ((wrap64 (256 * (wrap64 (rd l0 4)))) + (wrap64 (rd l0 5)))))) : Int).toNat).drop 6).length < 140737488355328 then (some ((y288 ++ ((l0.take ((wrap64 (6 + (wrap64 ((wrap64 (256 * (wrap64 (rd l0 4)))) + (wrap64 (rd l0 5)))))) : Int).toNat).drop 6)), true)) else (none))) else (some (([] : List Int), false))) else (some (([] : List Int), false)))) else (none)) else (none))) else (none)) else (none))
theorem palimpsestref02_Unbox.mono : ∀ a0 k, LeO (palimpsestref02_Unbox.f k a0) (palimpsestref02_Unbox.f (k + 1) a0) := by
  intro a0 k
  unfold palimpsestref02_Unbox.f
  repeat' first
      | (with_reducible exact palimpsestref02_Box.mono _ _ _)
      | (with_reducible exact LeO.refl _)
      | (with_reducible exact LeO.none _)
      | (with_reducible refine LeO.ite ?_ ?_)
      | (with_reducible refine LeO.bind ?_ (fun _ => ?_))
      | exact palimpsestref02_Box.mono _ _ _
      | exact LeO.none _
      | refine LeO.ite ?_ ?_
      | refine LeO.bind ?_ (fun _ => ?_)
set_option maxHeartbeats 8000000 in
set_option maxRecDepth 100000 in
theorem palimpsestref02_Unbox.calls (k : Nat) (A0 : Option Addr) (c0 : Nat) (l0 : List Int) (r1 : List Int) (r2 : Bool) (w : World) (hr0 : Kd.C (Kd.int .u8) w A0 l0.length l0) (hc0 : l0.length ≤ c0) (h : palimpsestref02_Unbox.f k l0 = some (r1, r2)) :
    Calls Try.prog 30 #[.slice A0 l0.length c0] w fun e w' => ∃ v0_ : Value, e = .returned (.tuple #[v0_, .bool r2]) ∧ Kd.R (Kd.int .u8) 5 w' w.heap.size (fun _ => True) v0_ r1 ∧ Below w.heap.size w w' := by
  have HR0 := Aside0.mk hr0
  have HC0 := Aside0.mk hc0
  clear hr0 hc0
  have HB := Aside0.mk (Below.refl w.heap.size w)
  have H : (if (l0.length : Int) < 6 then (some (([] : List Int), false)) else (if 4 < (l0.length : Int) then (if 5 < (l0.length : Int) then (if (wrap64 ((wrap64 (256 * (wrap64 (rd l0 4)))) + (wrap64 (rd l0 5)))) > (wrap64 ((l0.length : Int) - 6)) then (some (([] : List Int), false)) else (if 6 ≤ (wrap64 (6 + (wrap64 ((wrap64 (256 * (wrap64 (rd l0 4)))) + (wrap64 (rd l0 5)))))) then (if (wrap64 (6 + (wrap64 ((wrap64 (256 * (wrap64 (rd l0 4)))) + (wrap64 (rd l0 5)))))) ≤ (l0.length : Int) then ((palimpsestref02_Box.f k (l0.length : Int) ((l0.take ((wrap64 (6 + (wrap64 ((wrap64 (256 * (wrap64 (rd l0 4)))) + (wrap64 (rd l0 5)))))) : Int).toNat).drop 6)).bind fun bt284 => (if bt284.2 = 0 then (if (strOfNums bt284.1).toList = (strOfNums l0).toList then ((some (([] : List Int) : List Int)).bind fun y288 => (if y288.length + ((l0.take ((wrap64 (6 + (wrap64 ((wrap64 (256 * (wrap64 (rd l0 4)))) + (wrap64 (rd l0 5)))))) : Int).toNat).drop 6).length < 140737488355328 then (some ((y288 ++ ((l0.take ((wrap64 (6 + (wrap64 ((wrap64 (256 * (wrap64 (rd l0 4)))) + (wrap64 (rd l0 5)))))) : Int).toNat).drop 6)), true)) else (none))) else (some (([] : List Int), false))) else (some (([] : List Int), false)))) else (none)) else (none))) else (none)) else (none))) = some (r1, r2) := h
  clear h
  by_cases c2 : (l0.length : Int) < 6
  · rw [if_pos c2] at H
    have c2b0 : decide ((l0.length : Int) < 6) = true := decide_eq_true c2
    have c2b1 : decide (l0.length < 6) = true := decide_eq_true (by omega)
    clear c2
    simp only [Option.some.injEq, Prod.mk.injEq] at H
    obtain ⟨rfl, rfl⟩ := H
    go_enter Try.func30, Try.ntmps30
    go_wp2
    repeat (go_quiet (fail); try go_wp2)
    go_ret2
    exact ⟨_, by first | rfl | (simp [errW_none, errW_some] <;> rfl) | (simp [*, errW_none, errW_some] <;> rfl), by first | exact Kd.R_nil _ _ _ _ _ | exact Kd.N_nil _ _ _ _ _ | exact Kd.V_nil _ _ _ _ _ | exact Kd.Q_nil _ _ _ _ _ | exact Kd.S_nil _ _ _ _ _, by repeat (first | (with_reducible first | exact HB.out | apply below_alloc | apply pw_below_drewN | apply below_drew1) | exact HB.out)⟩
  · rw [if_neg c2] at H
    have c2b0 : decide ((l0.length : Int) < 6) = false := decide_eq_false c2
    have c2b1 : decide (l0.length < 6) = false := decide_eq_false (by omega)
    clear c2
    by_cases c3 : 4 < (l0.length : Int)
    · rw [if_pos c3] at H
      have c3b0 : decide (4 < (l0.length : Int)) = true := decide_eq_true c3
      have c3b1 : decide (4 < l0.length) = true := decide_eq_true (by omega)
      clear c3
      by_cases c4 : 5 < (l0.length : Int)
      · rw [if_pos c4] at H
        have c4b0 : decide (5 < (l0.length : Int)) = true := decide_eq_true c4
        have c4b1 : decide (5 < l0.length) = true := decide_eq_true (by omega)
        clear c4
        by_cases c5 : (wrap64 ((wrap64 (256 * (wrap64 (rd l0 4)))) + (wrap64 (rd l0 5)))) > (wrap64 ((l0.length : Int) - 6))
        · rw [if_pos c5] at H
          have c5b0 : decide ((wrap64 ((l0.length : Int) - 6)) < (wrap64 ((wrap64 (256 * (wrap64 (rd l0 4)))) + (wrap64 (rd l0 5))))) = true := decide_eq_true c5
          clear c5
          simp only [Option.some.injEq, Prod.mk.injEq] at H
          obtain ⟨rfl, rfl⟩ := H
          have p281 : 0 ≤ (4 : Int) := (by omega)
          have q281 : 4 < (l0.length : Int) := of_decide_eq_true (by first | (with_reducible assumption) | assumption)
          obtain ⟨ad281, e281, hx281_0⟩ := Kd.at_int HR0.out 4 p281 q281
          cases e281
          (try simp only [show (4 : Int).toNat = 4 from rfl, Nat.reduceMul, Nat.reduceEqDiff, Go.Addr.add, ↓reduceIte] at hx281_0)
          have qi281 : (4 < l0.length) = True := eq_true (by omega)
          (try rw [show ((4 : Int)).toNat = 4 from rfl] at hx281_0)
          replace p281 := eq_true p281
          replace q281 := eq_true q281
          have p282 : 0 ≤ (5 : Int) := (by omega)
          have q282 : 5 < (l0.length : Int) := of_decide_eq_true (by first | (with_reducible assumption) | assumption)
          obtain ⟨ad282, e282, hx282_0⟩ := Kd.at_int HR0.out 5 p282 q282
          obtain rfl : ad281 = ad282 := (by injection e282)
          (try simp only [show (5 : Int).toNat = 5 from rfl, Nat.reduceMul, Nat.reduceEqDiff, Go.Addr.add, ↓reduceIte] at hx282_0)
          have qi282 : (5 < l0.length) = True := eq_true (by omega)
          (try rw [show ((5 : Int)).toNat = 5 from rfl] at hx282_0)
          replace p282 := eq_true p282
          replace q282 := eq_true q282
          go_enter Try.func30, Try.ntmps30
          go_wp2
          repeat (go_quiet (fail); try go_wp2)
          go_ret2
          exact ⟨_, by first | rfl | (simp [errW_none, errW_some] <;> rfl) | (simp [*, errW_none, errW_some] <;> rfl), by first | exact Kd.R_nil _ _ _ _ _ | exact Kd.N_nil _ _ _ _ _ | exact Kd.V_nil _ _ _ _ _ | exact Kd.Q_nil _ _ _ _ _ | exact Kd.S_nil _ _ _ _ _, by repeat (first | (with_reducible first | exact HB.out | apply below_alloc | apply pw_below_drewN | apply below_drew1) | exact HB.out)⟩
        · rw [if_neg c5] at H
          have c5b0 : decide ((wrap64 ((l0.length : Int) - 6)) < (wrap64 ((wrap64 (256 * (wrap64 (rd l0 4)))) + (wrap64 (rd l0 5))))) = false := decide_eq_false c5
          clear c5
          by_cases c6 : 6 ≤ (wrap64 (6 + (wrap64 ((wrap64 (256 * (wrap64 (rd l0 4)))) + (wrap64 (rd l0 5))))))
          · rw [if_pos c6] at H
            have c6b0 := eq_true c6
            have c6b1 : decide (6 ≤ (wrap64 (6 + (wrap64 ((wrap64 (256 * (wrap64 (rd l0 4)))) + (wrap64 (rd l0 5))))))) = true := decide_eq_true c6
            by_cases c7 : (wrap64 (6 + (wrap64 ((wrap64 (256 * (wrap64 (rd l0 4)))) + (wrap64 (rd l0 5)))))) ≤ (l0.length : Int)
            · rw [if_pos c7] at H
              have c7b0 := eq_true c7
              have c7b1 : decide ((wrap64 (6 + (wrap64 ((wrap64 (256 * (wrap64 (rd l0 4)))) + (wrap64 (rd l0 5)))))) ≤ (l0.length : Int)) = true := decide_eq_true c7
              replace H := Option.bind_eq_some_iff.mp H
              obtain ⟨⟨t284, t285⟩, A80, H⟩ := H
              replace H : (if t285 = 0 then (if (strOfNums t284).toList = (strOfNums l0).toList then ((some (([] : List Int) : List Int)).bind fun y288 => (if y288.length + ((l0.take ((wrap64 (6 + (wrap64 ((wrap64 (256 * (wrap64 (rd l0 4)))) + (wrap64 (rd l0 5)))))) : Int).toNat).drop 6).length < 140737488355328 then (some ((y288 ++ ((l0.take ((wrap64 (6 + (wrap64 ((wrap64 (256 * (wrap64 (rd l0 4)))) + (wrap64 (rd l0 5)))))) : Int).toNat).drop 6)), true)) else (none))) else (some (([] : List Int), false))) else (some (([] : List Int), false))) = some (r1, r2) := H
              have A8 := Aside0.mk A80
              clear A80
              by_cases c9 : t285 = 0
              · rw [if_pos c9] at H
                have c9b0 : (t285 == 0) = true := beq_iff_eq.mpr c9
                have c9b1 : (t285 != 0) = false := bne_eq_false_iff_eq.mpr c9
                clear c9
                by_cases c10 : (strOfNums t284).toList = (strOfNums l0).toList
                · rw [if_pos c10] at H
                  have c10b0 : ((strOfNums t284).toList == (strOfNums l0).toList) = true := beq_iff_eq.mpr c10
                  have c10b1 : ((strOfNums t284).toList != (strOfNums l0).toList) = false := bne_eq_false_iff_eq.mpr c10
                  clear c10
                  obtain ⟨y288, hy288⟩ : ∃ y_ : List Int, y_ = (([] : List Int)) := ⟨_, rfl⟩
                  replace H : (if y288.length + ((l0.take ((wrap64 (6 + (wrap64 ((wrap64 (256 * (wrap64 (rd l0 4)))) + (wrap64 (rd l0 5)))))) : Int).toNat).drop 6).length < 140737488355328 then (some ((y288 ++ ((l0.take ((wrap64 (6 + (wrap64 ((wrap64 (256 * (wrap64 (rd l0 4)))) + (wrap64 (rd l0 5)))))) : Int).toNat).drop 6)), true)) else (none)) = some (r1, r2) := by first | (rw [hy288]; with_reducible exact H) | (have H2_ := (Option.bind_some _ _).symm.trans H; rw [hy288]; with_reducible exact H2_) | (have H2_ := (Option.bind_some _ _).symm.trans H; with_reducible exact H2_) | with_reducible exact H | (rw [hy288]; exact H) | exact H
                  have Ny288 := Aside0.mk hy288
                  clear hy288
                  have c11b0 := eq_true (of_decide_eq_true (by first | (with_reducible assumption) | assumption) : 6 ≤ (wrap64 (6 + (wrap64 ((wrap64 (256 * (wrap64 (rd l0 4)))) + (wrap64 (rd l0 5)))))))
                  have c12b0 := eq_true (of_decide_eq_true (by first | (with_reducible assumption) | assumption) : (wrap64 (6 + (wrap64 ((wrap64 (256 * (wrap64 (rd l0 4)))) + (wrap64 (rd l0 5)))))) ≤ (l0.length : Int))
                  by_cases c13 : y288.length + ((l0.take ((wrap64 (6 + (wrap64 ((wrap64 (256 * (wrap64 (rd l0 4)))) + (wrap64 (rd l0 5)))))) : Int).toNat).drop 6).length < 140737488355328
                  · rw [if_pos c13] at H
                    have LMc13 := Aside0.mk c13
                    clear c13
                    obtain ⟨y292, hy292⟩ : ∃ y_ : List Int, y_ = (y288 ++ ((l0.take ((wrap64 (6 + (wrap64 ((wrap64 (256 * (wrap64 (rd l0 4)))) + (wrap64 (rd l0 5)))))) : Int).toNat).drop 6)) := ⟨_, rfl⟩
                    replace H : (some (y292, true)) = some (r1, r2) := by first | (rw [hy292]; with_reducible exact H) | (have H2_ := (Option.bind_some _ _).symm.trans H; rw [hy292]; with_reducible exact H2_) | (have H2_ := (Option.bind_some _ _).symm.trans H; with_reducible exact H2_) | with_reducible exact H | (rw [hy292]; exact H) | exact H
                    have Ny292 := Aside0.mk hy292
                    clear hy292
                    simp only [Option.some.injEq, Prod.mk.injEq] at H
                    obtain ⟨rfl, rfl⟩ := H
                    have p281 : 0 ≤ (4 : Int) := (by omega)
                    have q281 : 4 < (l0.length : Int) := of_decide_eq_true (by first | (with_reducible assumption) | assumption)
                    obtain ⟨ad281, e281, hx281_0⟩ := Kd.at_int HR0.out 4 p281 q281
                    cases e281
                    (try simp only [show (4 : Int).toNat = 4 from rfl, Nat.reduceMul, Nat.reduceEqDiff, Go.Addr.add, ↓reduceIte] at hx281_0)
                    have qi281 : (4 < l0.length) = True := eq_true (by omega)
                    (try rw [show ((4 : Int)).toNat = 4 from rfl] at hx281_0)
                    replace p281 := eq_true p281
                    replace q281 := eq_true q281
                    have p282 : 0 ≤ (5 : Int) := (by omega)
                    have q282 : 5 < (l0.length : Int) := of_decide_eq_true (by first | (with_reducible assumption) | assumption)
                    obtain ⟨ad282, e282, hx282_0⟩ := Kd.at_int HR0.out 5 p282 q282
                    obtain rfl : ad281 = ad282 := (by injection e282)
                    (try simp only [show (5 : Int).toNat = 5 from rfl, Nat.reduceMul, Nat.reduceEqDiff, Go.Addr.add, ↓reduceIte] at hx282_0)
                    have qi282 : (5 < l0.length) = True := eq_true (by omega)
                    (try rw [show ((5 : Int)).toNat = 5 from rfl] at hx282_0)
                    replace p282 := eq_true p282
                    replace q282 := eq_true q282
                    obtain ⟨i014, hi014, _, hsz14, _⟩ := info_parts info5
                    obtain ⟨A14, hcut14, hA14, hC14⟩ := print_mid_of (P := Try.prog) (Value.int .u8) 0 22 5 .i64 .i64 Try.underlying22 hi014 hsz14 (some ad281) c0 l0 6 (wrap64 (6 + (wrap64 ((wrap64 (256 * (wrap64 (rd l0 4)))) + (wrap64 (rd l0 5)))))) (by omega) (by first | omega | exact of_decide_eq_true (by first | (with_reducible assumption) | assumption)) (of_decide_eq_true (by first | (with_reducible assumption) | assumption)) HC0.out
                    have HR283 := Aside0.mk (Kd.C_of_reads (h1 := fun _ => rfl) (hA14 _ (Kd.reads_of_C HR0.out)))
                    have HC283 := Aside0.mk hC14
                    clear hA14 hC14 hi014 hsz14
                    simp only [show (6 : Int).toNat = 6 from rfl] at hcut14 HR283 HC283
                    generalize (l0.take ((wrap64 (6 + (wrap64 ((wrap64 (256 * (wrap64 (rd l0 4)))) + (wrap64 (rd l0 5)))))) : Int).toNat).drop 6 = l6 at hcut14 HR283 HC283 A8 Ny292 LMc13
                    go_enter Try.func30, Try.ntmps30
                    go_wp2
                    go_quiet (fail)
                    go_wp2_with (first | (go_at_call 27; (with_reducible refine (palimpsestref02_Box.calls k (l0.length : Int) _ _ l6 t284 t285 _ ?side1 ?side2 A8.out).mono ?_); (case side1 => exact Kd.C_drewN (by first | exact HR283.out | exact Kd.C_below HR283.out HB.out) _); (case side2 => exact HC283.out); rintro e w15 ⟨v286, rfl, ho0, hb⟩; have HO287 := Aside0.mk (Kd.R_lower ho0 (below_size (pw_below_drewN HB.out _))); have HB15 := Aside0.mk (below_step (pw_below_drewN HB.out _) hb); clear ho0 hb; have hcv16 := own_string (P := Try.prog) Try.underlying22 Try.underlying5 Try.underlying9 (Kd.own_of_R HO287.out); have hcv17 := Kd.C_string (P := Try.prog) (A := (some ad281)) (c := c0) Try.underlying22 Try.underlying5 Try.underlying9 (Kd.C_below HR0.out HB15.out)) | ((with_reducible refine gate_dst (N := 44) rfl ?_); refine Kd.R_lit (w0 := w) (Kd.int .u8) w.heap.size 5 ?hg (N := 44) ?hd (xs := ([] : List Int)) (inner := []) (ok := fun _ => True) (okp := fun _ => True) ?hr ?hp (fun _ hk => hk) trivial HB15.out (below_size HB15.out) (by simp) ?_; (case hd => rfl); (case hg => rfl); (case hr => first | (go_simp; done) | (go_simp; rfl)); (case hp => exact (Reps.none _ _)); intro v289 w18 ho19 hb hg_ hnew_; rw [← Ny288.out] at ho19; have HO290 := Aside0.mk ho19; have HB18 := Aside0.mk hb; have HR18 := Aside0.mk (Kd.C_below HR283.out hb); clear ho19 hb hg_ hnew_) | ((with_reducible refine gate_builtin (b := .append) (xs := #[.tmp 44, .tmp 48]) rfl ?_); at_builtin; refine Kd.R_append_rows (Kd.int .u8) (w0 := w) w.heap.size rfl (.tmp 44) (.tmp 48) 22 5 (.int .u8 0) 1 rfl Try.underlying22 info5 rfl (by decide) (by omega) v289 y288 l6 _ _ _ (fun _ => True) (fun _ => False) rfl rfl ?aO ?aR (fun _ _ h => h) (fun _ h => h.elim) ?aF ?aB ?aS ?aL ?_; (case aR => exact HR18.out); (case aB => exact HB18.out); (case aF => exact (fun _ _ => trivial)); (case aO => exact HO290.out); (case aS => exact below_size HB18.out); (case aL => have := LMc13.out; omega); intro v293 w21 ho hb hg hat; rw [← Ny292.out] at ho; have HB21 := Aside0.mk hb; have HO294 := Aside0.mk ho; clear ho hb hg hat))
                    go_ret2
                    exact ⟨_, rfl, HO294.out, HB21.out⟩
                  · rw [if_neg c13] at H
                    exact absurd H (by simp)
                · rw [if_neg c10] at H
                  have c10b0 : ((strOfNums t284).toList == (strOfNums l0).toList) = false := beq_eq_false_iff_ne.mpr c10
                  have c10b1 : ((strOfNums t284).toList != (strOfNums l0).toList) = true := bne_iff_ne.mpr c10
                  simp only [Option.some.injEq, Prod.mk.injEq] at H
                  obtain ⟨rfl, rfl⟩ := H
                  have p281 : 0 ≤ (4 : Int) := (by omega)
                  have q281 : 4 < (l0.length : Int) := of_decide_eq_true (by first | (with_reducible assumption) | assumption)
                  obtain ⟨ad281, e281, hx281_0⟩ := Kd.at_int HR0.out 4 p281 q281
                  cases e281
                  (try simp only [show (4 : Int).toNat = 4 from rfl, Nat.reduceMul, Nat.reduceEqDiff, Go.Addr.add, ↓reduceIte] at hx281_0)
                  have qi281 : (4 < l0.length) = True := eq_true (by omega)
                  (try rw [show ((4 : Int)).toNat = 4 from rfl] at hx281_0)
                  replace p281 := eq_true p281
                  replace q281 := eq_true q281
                  have p282 : 0 ≤ (5 : Int) := (by omega)
                  have q282 : 5 < (l0.length : Int) := of_decide_eq_true (by first | (with_reducible assumption) | assumption)
                  obtain ⟨ad282, e282, hx282_0⟩ := Kd.at_int HR0.out 5 p282 q282
                  obtain rfl : ad281 = ad282 := (by injection e282)
                  (try simp only [show (5 : Int).toNat = 5 from rfl, Nat.reduceMul, Nat.reduceEqDiff, Go.Addr.add, ↓reduceIte] at hx282_0)
                  have qi282 : (5 < l0.length) = True := eq_true (by omega)
                  (try rw [show ((5 : Int)).toNat = 5 from rfl] at hx282_0)
                  replace p282 := eq_true p282
                  replace q282 := eq_true q282
                  obtain ⟨i022, hi022, _, hsz22, _⟩ := info_parts info5
                  obtain ⟨A22, hcut22, hA22, hC22⟩ := print_mid_of (P := Try.prog) (Value.int .u8) 0 22 5 .i64 .i64 Try.underlying22 hi022 hsz22 (some ad281) c0 l0 6 (wrap64 (6 + (wrap64 ((wrap64 (256 * (wrap64 (rd l0 4)))) + (wrap64 (rd l0 5)))))) (by omega) (by first | omega | exact of_decide_eq_true (by first | (with_reducible assumption) | assumption)) (of_decide_eq_true (by first | (with_reducible assumption) | assumption)) HC0.out
                  have HR283 := Aside0.mk (Kd.C_of_reads (h1 := fun _ => rfl) (hA22 _ (Kd.reads_of_C HR0.out)))
                  have HC283 := Aside0.mk hC22
                  clear hA22 hC22 hi022 hsz22
                  simp only [show (6 : Int).toNat = 6 from rfl] at hcut22 HR283 HC283
                  generalize (l0.take ((wrap64 (6 + (wrap64 ((wrap64 (256 * (wrap64 (rd l0 4)))) + (wrap64 (rd l0 5)))))) : Int).toNat).drop 6 = l6 at hcut22 HR283 HC283 A8
                  go_enter Try.func30, Try.ntmps30
                  go_wp2
                  go_quiet (fail)
                  go_wp2_with (first | (go_at_call 27; (with_reducible refine (palimpsestref02_Box.calls k (l0.length : Int) _ _ l6 t284 t285 _ ?side1 ?side2 A8.out).mono ?_); (case side1 => exact Kd.C_drewN (by first | exact HR283.out | exact Kd.C_below HR283.out HB.out) _); (case side2 => exact HC283.out); rintro e w15 ⟨v286, rfl, ho0, hb⟩; have HO287 := Aside0.mk (Kd.R_lower ho0 (below_size (pw_below_drewN HB.out _))); have HB15 := Aside0.mk (below_step (pw_below_drewN HB.out _) hb); clear ho0 hb; have hcv16 := own_string (P := Try.prog) Try.underlying22 Try.underlying5 Try.underlying9 (Kd.own_of_R HO287.out); have hcv17 := Kd.C_string (P := Try.prog) (A := (some ad281)) (c := c0) Try.underlying22 Try.underlying5 Try.underlying9 (Kd.C_below HR0.out HB15.out)))
                  go_ret2
                  exact ⟨_, rfl, Kd.R_nil _ _ _ _ _, by first | exact HB15.out | exact pw_below_drewN HB15.out _⟩
              · rw [if_neg c9] at H
                have c9b0 : (t285 == 0) = false := beq_eq_false_iff_ne.mpr c9
                have c9b1 : (t285 != 0) = true := bne_iff_ne.mpr c9
                simp only [Option.some.injEq, Prod.mk.injEq] at H
                obtain ⟨rfl, rfl⟩ := H
                have p281 : 0 ≤ (4 : Int) := (by omega)
                have q281 : 4 < (l0.length : Int) := of_decide_eq_true (by first | (with_reducible assumption) | assumption)
                obtain ⟨ad281, e281, hx281_0⟩ := Kd.at_int HR0.out 4 p281 q281
                cases e281
                (try simp only [show (4 : Int).toNat = 4 from rfl, Nat.reduceMul, Nat.reduceEqDiff, Go.Addr.add, ↓reduceIte] at hx281_0)
                have qi281 : (4 < l0.length) = True := eq_true (by omega)
                (try rw [show ((4 : Int)).toNat = 4 from rfl] at hx281_0)
                replace p281 := eq_true p281
                replace q281 := eq_true q281
                have p282 : 0 ≤ (5 : Int) := (by omega)
                have q282 : 5 < (l0.length : Int) := of_decide_eq_true (by first | (with_reducible assumption) | assumption)
                obtain ⟨ad282, e282, hx282_0⟩ := Kd.at_int HR0.out 5 p282 q282
                obtain rfl : ad281 = ad282 := (by injection e282)
                (try simp only [show (5 : Int).toNat = 5 from rfl, Nat.reduceMul, Nat.reduceEqDiff, Go.Addr.add, ↓reduceIte] at hx282_0)
                have qi282 : (5 < l0.length) = True := eq_true (by omega)
                (try rw [show ((5 : Int)).toNat = 5 from rfl] at hx282_0)
                replace p282 := eq_true p282
                replace q282 := eq_true q282
                obtain ⟨i026, hi026, _, hsz26, _⟩ := info_parts info5
                obtain ⟨A26, hcut26, hA26, hC26⟩ := print_mid_of (P := Try.prog) (Value.int .u8) 0 22 5 .i64 .i64 Try.underlying22 hi026 hsz26 (some ad281) c0 l0 6 (wrap64 (6 + (wrap64 ((wrap64 (256 * (wrap64 (rd l0 4)))) + (wrap64 (rd l0 5)))))) (by omega) (by first | omega | exact of_decide_eq_true (by first | (with_reducible assumption) | assumption)) (of_decide_eq_true (by first | (with_reducible assumption) | assumption)) HC0.out
                have HR283 := Aside0.mk (Kd.C_of_reads (h1 := fun _ => rfl) (hA26 _ (Kd.reads_of_C HR0.out)))
                have HC283 := Aside0.mk hC26
                clear hA26 hC26 hi026 hsz26
                simp only [show (6 : Int).toNat = 6 from rfl] at hcut26 HR283 HC283
                generalize (l0.take ((wrap64 (6 + (wrap64 ((wrap64 (256 * (wrap64 (rd l0 4)))) + (wrap64 (rd l0 5)))))) : Int).toNat).drop 6 = l6 at hcut26 HR283 HC283 A8
                go_enter Try.func30, Try.ntmps30
                go_wp2
                go_quiet (fail)
                go_wp2_with (first | (go_at_call 27; (with_reducible refine (palimpsestref02_Box.calls k (l0.length : Int) _ _ l6 t284 t285 _ ?side1 ?side2 A8.out).mono ?_); (case side1 => exact Kd.C_drewN (by first | exact HR283.out | exact Kd.C_below HR283.out HB.out) _); (case side2 => exact HC283.out); rintro e w15 ⟨v286, rfl, ho0, hb⟩; have HO287 := Aside0.mk (Kd.R_lower ho0 (below_size (pw_below_drewN HB.out _))); have HB15 := Aside0.mk (below_step (pw_below_drewN HB.out _) hb); clear ho0 hb; have hcv16 := own_string (P := Try.prog) Try.underlying22 Try.underlying5 Try.underlying9 (Kd.own_of_R HO287.out); have hcv17 := Kd.C_string (P := Try.prog) (A := (some ad281)) (c := c0) Try.underlying22 Try.underlying5 Try.underlying9 (Kd.C_below HR0.out HB15.out)))
                go_ret2
                exact ⟨_, rfl, Kd.R_nil _ _ _ _ _, by first | exact HB15.out | exact pw_below_drewN HB15.out _⟩
            · rw [if_neg c7] at H
              exact absurd H (by simp)
          · rw [if_neg c6] at H
            exact absurd H (by simp)
      · rw [if_neg c4] at H
        exact absurd H (by simp)
    · rw [if_neg c3] at H
      exact absurd H (by simp)

end Go.Proofs.Ytbphmpncajfaiaa.Py
