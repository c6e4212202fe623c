-- begun as a text of the kit's print.py (over a near text), mended by hand
import Derived.Test.YtbphmpncajfaiaaK0
import Derived.Test.YtbphmpncajfaiaaPyx0
import Derived.Test.YtbphmpncajfaiaaPyx5
namespace Go.Proofs.Ytbphmpncajfaiaa.Py
open Go.Proofs.Ytbphmpncajfaiaa.K Go.RowKit Go.Proofs.YtbphmpncajfaiaaW.PrintWords Go.Proofs.YtbphmpncajfaiaaW.PrintLast Go.Proofs.YtbphmpncajfaiaaW.PrintMore
attribute [local go_sem] max2_int min2_int max_two min_two max_three min_three max_four min_four   -- for this text's walks alone
set_option linter.unusedVariables false
set_option linter.unusedSimpArgs false

/-! ### wire_Box: function 26 -/
/-- The head of a box ahead of its sum: how many bytes are in it. -/
def boxHead (n : Int) : List Int := ((List.replicate 6 (0 : Int)).set 4 ((n / 256) % 256)).set 5 (n % 256)
/-- The sum in its place. -/
def stamp (l : List Int) (c : Int) : List Int := (((l.set 0 ((c / 16777216) % 256)).set 1 ((c / 65536) % 256)).set 2 ((c / 256) % 256)).set 3 (c % 256)
mutual
def wire_Box.j0 : Nat → Int → List (List Int) → Bool → Option (List Int × Option Int)
  | 0, _, _, _ => none
  | k + 1, x0, x1, x18 => if x18 = true then (some (([] : List Int), some 1)) else (wire_Box.l0 k x0 x1 0 x1 (x1.length : Int) 0)
def wire_Box.l0 : Nat → Int → List (List Int) → Int → List (List Int) → Int → Int → Option (List Int × Option Int)
  | 0, _, _, _, _, _, _ => none
  | k + 1, x0, x1, x6, x20, x21, x22 => if x22 < x21 then (if 0 ≤ x22 then (if x22 < (x20.length : Int) then (if (wrap64 (x6 + ((rd_L2 x20 x22).length : Int))) > (wrap64 (x0 - 6)) then (some (([] : List Int), some 2)) else (if (wrap64 (x6 + ((rd_L2 x20 x22).length : Int))) > 65535 then (some (([] : List Int), some 2)) else (wire_Box.l0 k x0 x1 (wrap64 (x6 + ((rd_L2 x20 x22).length : Int))) x20 x21 (wrap64 (x22 + 1))))) else (none)) else (none)) else (if 6 ≤ x0 then (if x0 ≤ 281474976710656 then (wire_Box.l1 k x0 (boxHead x6) x1 (x1.length : Int) 0) else (none)) else (none))
def wire_Box.l1 : Nat → Int → List Int → List (List Int) → Int → Int → Option (List Int × Option Int)
  | 0, _, _, _, _, _ => none
  | k + 1, x0, x9, x51, x52, x53 => if x53 < x52 then (if 0 ≤ x53 then (if x53 < (x51.length : Int) then (if x9.length + (rd_L2 x51 x53).length < 140737488355328 then (wire_Box.l1 k x0 (x9 ++ (rd_L2 x51 x53)) x51 x52 (wrap64 (x53 + 1))) else (none)) else (none)) else (none)) else (if 0 ≤ (wrap64 (x0 - (x9.length : Int))) then (if x9.length + (wrap64 (x0 - (x9.length : Int)) : Int).toNat < 140737488355328 then ((some (x9 ++ List.replicate (wrap64 (x0 - (x9.length : Int)) : Int).toNat 0 : List Int)).bind fun y131 => (if 4 ≤ (y131.length : Int) then ((wire_Check.f k (([(y131.drop 4)] : List (List Int)))).bind fun t142 => (some (stamp y131 t142, none))) else (none))) else (none)) else (none))
end
def wire_Box.f (k : Nat) (a0 : Int) (l1 : List (List Int)) : Option (List Int × Option Int) := if a0 < 6 then (wire_Box.j0 k a0 l1 true) else (wire_Box.j0 k a0 l1 (decide (a0 > 65536)))
theorem wire_Box.mono_l : ∀ k, (∀ y0 y1 y2, LeO (wire_Box.j0 k y0 y1 y2) (wire_Box.j0 (k + 1) y0 y1 y2)) ∧ (∀ y0 y1 y2 y3 y4 y5, LeO (wire_Box.l0 k y0 y1 y2 y3 y4 y5) (wire_Box.l0 (k + 1) y0 y1 y2 y3 y4 y5)) ∧ (∀ y0 y1 y2 y3 y4, LeO (wire_Box.l1 k y0 y1 y2 y3 y4) (wire_Box.l1 (k + 1) y0 y1 y2 y3 y4))
  | 0 => ⟨fun _ _ _ r h => by simp [wire_Box.j0] at h, fun _ _ _ _ _ _ r h => by simp [wire_Box.l0] at h, fun _ _ _ _ _ r h => by simp [wire_Box.l1] at h⟩
  | k + 1 => by
    obtain ⟨ih0, ih1, ih2⟩ := wire_Box.mono_l k
    refine ⟨?_, ?_, ?_⟩
    · intro y0 y1 y2
      unfold wire_Box.j0
      repeat' first
      | (with_reducible exact ih0 _ _ _)
      | (with_reducible exact ih1 _ _ _ _ _ _)
      | (with_reducible exact ih2 _ _ _ _ _)
      | (with_reducible exact wire_Check.mono _ _)
      | (with_reducible exact LeO.refl _)
      | (with_reducible exact LeO.none _)
      | (with_reducible refine LeO.ite ?_ ?_)
      | (with_reducible refine LeO.bind ?_ (fun _ => ?_))
      | exact ih0 _ _ _
      | exact ih1 _ _ _ _ _ _
      | exact ih2 _ _ _ _ _
      | exact wire_Check.mono _ _
      | exact LeO.none _
      | refine LeO.ite ?_ ?_
      | refine LeO.bind ?_ (fun _ => ?_)
    · intro y0 y1 y2 y3 y4 y5
      unfold wire_Box.l0
      repeat' first
      | (with_reducible exact ih0 _ _ _)
      | (with_reducible exact ih1 _ _ _ _ _ _)
      | (with_reducible exact ih2 _ _ _ _ _)
      | (with_reducible exact wire_Check.mono _ _)
      | (with_reducible exact LeO.refl _)
      | (with_reducible exact LeO.none _)
      | (with_reducible refine LeO.ite ?_ ?_)
      | (with_reducible refine LeO.bind ?_ (fun _ => ?_))
      | exact ih0 _ _ _
      | exact ih1 _ _ _ _ _ _
      | exact ih2 _ _ _ _ _
      | exact wire_Check.mono _ _
      | exact LeO.none _
      | refine LeO.ite ?_ ?_
      | refine LeO.bind ?_ (fun _ => ?_)
    · intro y0 y1 y2 y3 y4
      unfold wire_Box.l1
      repeat' first
      | (with_reducible exact ih0 _ _ _)
      | (with_reducible exact ih1 _ _ _ _ _ _)
      | (with_reducible exact ih2 _ _ _ _ _)
      | (with_reducible exact wire_Check.mono _ _)
      | (with_reducible exact LeO.refl _)
      | (with_reducible exact LeO.none _)
      | (with_reducible refine LeO.ite ?_ ?_)
      | (with_reducible refine LeO.bind ?_ (fun _ => ?_))
      | exact ih0 _ _ _
      | exact ih1 _ _ _ _ _ _
      | exact ih2 _ _ _ _ _
      | exact wire_Check.mono _ _
      | exact LeO.none _
      | refine LeO.ite ?_ ?_
      | refine LeO.bind ?_ (fun _ => ?_)
theorem wire_Box.mono : ∀ a0 a1 k, LeO (wire_Box.f k a0 a1) (wire_Box.f (k + 1) a0 a1) := by
  intro a0 a1 k
  obtain ⟨ih0, ih1, ih2⟩ := wire_Box.mono_l k
  unfold wire_Box.f
  repeat' first
      | (with_reducible exact ih0 _ _ _)
      | (with_reducible exact ih1 _ _ _ _ _ _)
      | (with_reducible exact ih2 _ _ _ _ _)
      | (with_reducible exact wire_Check.mono _ _)
      | (with_reducible exact LeO.refl _)
      | (with_reducible exact LeO.none _)
      | (with_reducible refine LeO.ite ?_ ?_)
      | (with_reducible refine LeO.bind ?_ (fun _ => ?_))
      | exact ih0 _ _ _
      | exact ih1 _ _ _ _ _ _
      | exact ih2 _ _ _ _ _
      | exact wire_Check.mono _ _
      | exact LeO.none _
      | refine LeO.ite ?_ ?_
      | refine LeO.bind ?_ (fun _ => ?_)
set_option maxHeartbeats 8000000 in
set_option maxRecDepth 100000 in
theorem wire_Box.calls (k : Nat) (a0 : Int) (A1 : Option Addr) (c1 : Nat) (l1 : List (List Int)) (r1 : List Int) (r2 : Option Int) (w : World) (hr1 : Kd.C (Kd.slice 5 (Kd.int .u8)) w A1 l1.length l1) (hc1 : l1.length ≤ c1) (h : wire_Box.f k a0 l1 = some (r1, r2)) :
    Calls Try.prog 26 #[.int .i64 a0, .slice A1 l1.length c1] w fun e w' => ∃ v0_ : Value, e = .returned (.tuple #[v0_, errW r2]) ∧ Kd.R (Kd.int .u8) 5 w' w.heap.size (fun _ => True) v0_ r1 ∧ Below w.heap.size w w' := by
  have hu40 := Try.underlying40
  have hu49 := Try.underlying49
  have HR1 := Aside0.mk hr1
  have HC1 := Aside0.mk hc1
  clear hr1 hc1
  have HB := Aside0.mk (Below.refl w.heap.size w)
  have H : (if a0 < 6 then (wire_Box.j0 k a0 l1 true) else (wire_Box.j0 k a0 l1 (decide (a0 > 65536)))) = some (r1, r2) := h
  clear h
  have HC3 := Aside0.mk H
  clear H
  go_enter Try.func26, Try.ntmps26
  go_upto_region 1 with (fail)
  go_cut [18] (fun v18 wc => ∃ (kq : Nat) (x18_2 : Bool), v18 = .bool x18_2 ∧ Aside0 (wire_Box.j0 kq a0 l1 x18_2 = some (r1, r2)) ∧ Aside0 (kq ≤ k) ∧ Aside0 (Below w.heap.size w wc))
  case first =>
    have H := HC3.out
    clear HC3
    by_cases c4 : a0 < 6
    · rw [if_pos c4] at H
      have c4b0 : decide (a0 < 6) = true := decide_eq_true c4
      clear c4
      (first | rw [c4b0] | (simp only [i64_w, i32_w]; rw [c4b0]) | skip)
      have H' := Aside0.mk H
      clear H
      go_wp2
      go_meet
      case rel => exact ⟨_, (true), (by first | rfl | (simp; done) | (simp [*]; done)), H', ⟨by first | omega | exact Nat.le_refl _⟩, ⟨by repeat (first | (with_reducible first | exact HB.out | apply below_alloc | apply pw_below_drewN | apply below_drew1) | exact HB.out)⟩⟩
    · rw [if_neg c4] at H
      have c4b0 : decide (a0 < 6) = false := decide_eq_false c4
      clear c4
      (first | rw [c4b0] | (simp only [i64_w, i32_w]; rw [c4b0]) | skip)
      have H' := Aside0.mk H
      clear H
      go_wp2
      go_meet
      case rel => exact ⟨_, (decide (a0 > 65536)), (by first | rfl | (simp; done) | (simp [*]; done)), H', ⟨by first | omega | exact Nat.le_refl _⟩, ⟨by repeat (first | (with_reducible first | exact HB.out | apply below_alloc | apply pw_below_drewN | apply below_drew1) | exact HB.out)⟩⟩
  case rest =>
    clear HC3
    try clear c1
    try clear c2
    try clear p2
    try clear c4
    try clear c4b0
    obtain ⟨kq, x18_2, rfl, HA, HJ2, HB⟩ := hcut
    cases kq with
    | zero => exact absurd HA.out (by simp [wire_Box.j0])
    | succ kj2 =>
      have H := HA.out
      clear HA
      simp only [wire_Box.j0] at H
      by_cases c5 : x18_2 = true
      · subst c5
        have H1 : (some (([] : List Int), some 1)) = some (r1, r2) := by rw [if_pos rfl] at H; exact H
        clear H
        have H := H1
        clear H1
        simp only [Option.some.injEq, Prod.mk.injEq] at H
        obtain ⟨rfl, rfl⟩ := H
        go_wp2
        go_ret2
        exact ⟨_, by first | rfl | (simp [errW_none, errW_some] <;> rfl) | (simp [*, errW_none, errW_some] <;> rfl), by first | exact Kd.R_nil _ _ _ _ _ | exact Kd.N_nil _ _ _ _ _ | exact Kd.V_nil _ _ _ _ _ | exact Kd.Q_nil _ _ _ _ _ | exact Kd.S_nil _ _ _ _ _, by repeat (first | (with_reducible first | exact HB.out | apply below_alloc | apply pw_below_drewN | apply below_drew1) | exact HB.out)⟩
      · replace c5 := Bool.eq_false_iff.mpr c5
        subst c5
        have H1 : (wire_Box.l0 kj2 a0 l1 0 l1 (l1.length : Int) 0) = some (r1, r2) := by rw [if_neg (show ¬ (false = true) by decide)] at H; exact H
        clear H
        have H := H1
        clear H1
        have H' := Aside0.mk H
        clear H
        go_wp2
        go_loopg [6, 22] kj2 (fun kq v6 v22 w' => ∃ (x6_2 : Int) (x22_2 : Int), v6 = .int .i64 x6_2 ∧ v22 = .int .i64 x22_2 ∧ Aside0 (wire_Box.l0 kq a0 l1 x6_2 l1 (l1.length : Int) x22_2 = some (r1, r2)) ∧ Aside0 (kq ≤ kj2) ∧ Aside0 (Below w.heap.size w w'))
        case atStart => exact ⟨(0), (0), (by first | rfl | (simp; done) | (simp [*]; done)), (by first | rfl | (simp; done) | (simp [*]; done)), H', ⟨Nat.le_refl _⟩, ⟨by repeat (first | (with_reducible first | exact HB.out | apply below_alloc | apply pw_below_drewN | apply below_drew1) | exact HB.out)⟩⟩
        case round =>
          clear H'
          try clear c1
          try clear c2
          try clear p2
          try clear c4
          try clear c4b0
          try clear c5
          try clear p2
          obtain ⟨x6_2, x22_2, rfl, rfl, HA, HK2, HB⟩ := hrel
          cases gk with
          | zero => exact absurd HA.out (by simp [wire_Box.l0])
          | succ k2 =>
            have H := HA.out
            clear HA
            simp only [wire_Box.l0] at H
            by_cases c6 : x22_2 < (l1.length : Int)
            · rw [if_pos c6] at H
              have c6b0 : decide (x22_2 < (l1.length : Int)) = true := decide_eq_true c6
              clear c6
              by_cases c7 : 0 ≤ x22_2
              · rw [if_pos c7] at H
                have c7b0 : decide (0 ≤ x22_2) = true := decide_eq_true c7
                clear c7
                by_cases c8 : x22_2 < (l1.length : Int)
                · rw [if_pos c8] at H
                  have c8b0 : decide (x22_2 < (l1.length : Int)) = true := decide_eq_true c8
                  clear c8
                  by_cases c9 : (wrap64 (x6_2 + ((rd_L2 l1 x22_2).length : Int))) > (wrap64 (a0 - 6))
                  · rw [if_pos c9] at H
                    have c9b0 : decide ((wrap64 (a0 - 6)) < (wrap64 (x6_2 + ((rd_L2 l1 x22_2).length : Int)))) = true := decide_eq_true c9
                    clear c9
                    simp only [Option.some.injEq, Prod.mk.injEq] at H
                    obtain ⟨rfl, rfl⟩ := H
                    have p123 : 0 ≤ (x22_2 : Int) := of_decide_eq_true (by first | (with_reducible assumption) | assumption)
                    have q123 : x22_2 < (l1.length : Int) := of_decide_eq_true (by first | (with_reducible assumption) | assumption)
                    obtain ⟨ad123, A123_0, c123_0, e123, hx123_0, hl123_0, hi123_0⟩ := at_L2 HR1.out x22_2 p123 q123
                    cases e123
                    replace hx123_0 := (HB.out.cell (World.block_lt_of_cell? w _ hx123_0)).trans hx123_0
                    have HR123_0 := Aside0.mk hi123_0
                    have HC123_0 := Aside0.mk hl123_0
                    clear hi123_0 hl123_0
                    replace p123 := eq_true p123
                    replace q123 := eq_true q123
                    go_wp2
                    go_ret2
                    exact ⟨_, by first | rfl | (simp [errW_none, errW_some] <;> rfl) | (simp [*, errW_none, errW_some] <;> rfl), by first | exact Kd.R_nil _ _ _ _ _ | exact Kd.N_nil _ _ _ _ _ | exact Kd.V_nil _ _ _ _ _ | exact Kd.Q_nil _ _ _ _ _ | exact Kd.S_nil _ _ _ _ _, by repeat (first | (with_reducible first | exact HB.out | apply below_alloc | apply pw_below_drewN | apply below_drew1) | exact HB.out)⟩
                  · rw [if_neg c9] at H
                    have c9b0 : decide ((wrap64 (a0 - 6)) < (wrap64 (x6_2 + ((rd_L2 l1 x22_2).length : Int)))) = false := decide_eq_false c9
                    clear c9
                    by_cases c10 : (wrap64 (x6_2 + ((rd_L2 l1 x22_2).length : Int))) > 65535
                    · rw [if_pos c10] at H
                      have c10b0 : decide (65535 < (wrap64 (x6_2 + ((rd_L2 l1 x22_2).length : Int)))) = true := decide_eq_true c10
                      clear c10
                      simp only [Option.some.injEq, Prod.mk.injEq] at H
                      obtain ⟨rfl, rfl⟩ := H
                      have p123 : 0 ≤ (x22_2 : Int) := of_decide_eq_true (by first | (with_reducible assumption) | assumption)
                      have q123 : x22_2 < (l1.length : Int) := of_decide_eq_true (by first | (with_reducible assumption) | assumption)
                      obtain ⟨ad123, A123_0, c123_0, e123, hx123_0, hl123_0, hi123_0⟩ := at_L2 HR1.out x22_2 p123 q123
                      cases e123
                      replace hx123_0 := (HB.out.cell (World.block_lt_of_cell? w _ hx123_0)).trans hx123_0
                      have HR123_0 := Aside0.mk hi123_0
                      have HC123_0 := Aside0.mk hl123_0
                      clear hi123_0 hl123_0
                      replace p123 := eq_true p123
                      replace q123 := eq_true q123
                      go_wp2
                      go_ret2
                      exact ⟨_, by first | rfl | (simp [errW_none, errW_some] <;> rfl) | (simp [*, errW_none, errW_some] <;> rfl), by first | exact Kd.R_nil _ _ _ _ _ | exact Kd.N_nil _ _ _ _ _ | exact Kd.V_nil _ _ _ _ _ | exact Kd.Q_nil _ _ _ _ _ | exact Kd.S_nil _ _ _ _ _, by repeat (first | (with_reducible first | exact HB.out | apply below_alloc | apply pw_below_drewN | apply below_drew1) | exact HB.out)⟩
                    · rw [if_neg c10] at H
                      have c10b0 : decide (65535 < (wrap64 (x6_2 + ((rd_L2 l1 x22_2).length : Int)))) = false := decide_eq_false c10
                      clear c10
                      have H' := Aside0.mk H
                      clear H
                      have p123 : 0 ≤ (x22_2 : Int) := of_decide_eq_true (by first | (with_reducible assumption) | assumption)
                      have q123 : x22_2 < (l1.length : Int) := of_decide_eq_true (by first | (with_reducible assumption) | assumption)
                      obtain ⟨ad123, A123_0, c123_0, e123, hx123_0, hl123_0, hi123_0⟩ := at_L2 HR1.out x22_2 p123 q123
                      cases e123
                      replace hx123_0 := (HB.out.cell (World.block_lt_of_cell? w _ hx123_0)).trans hx123_0
                      have HR123_0 := Aside0.mk hi123_0
                      have HC123_0 := Aside0.mk hl123_0
                      clear hi123_0 hl123_0
                      replace p123 := eq_true p123
                      replace q123 := eq_true q123
                      go_wp2
                      go_roundg k2
                      case measure => have := HJ2.out; have := HK2.out; omega
                      case rel => exact ⟨(wrap64 (x6_2 + ((rd_L2 l1 x22_2).length : Int))), (wrap64 (x22_2 + 1)), (by first | rfl | (simp; done) | (simp [*]; done)), (by first | rfl | (simp; done) | (simp [*]; done)), H', ⟨by have := HJ2.out; have := HK2.out; omega⟩, ⟨by repeat (first | (with_reducible first | exact HB.out | apply below_alloc | apply pw_below_drewN | apply below_drew1) | exact HB.out)⟩⟩
                · rw [if_neg c8] at H
                  exact absurd H (by simp)
              · rw [if_neg c7] at H
                exact absurd H (by simp)
            · rw [if_neg c6] at H
              have c6b0 : decide (x22_2 < (l1.length : Int)) = false := decide_eq_false c6
              clear c6
              by_cases c11 : 6 ≤ a0
              · rw [if_pos c11] at H
                by_cases c11' : a0 ≤ 281474976710656
                · rw [if_pos c11'] at H
                  have LA := Aside0.mk c11
                  have LB := Aside0.mk c11'
                  clear c11 c11'
                  have H' := Aside0.mk H
                  clear H
                  go_wp2_with (((with_reducible refine gate_dst (N := 41) rfl ?_); refine R_make_cap (Kd.int .u8) (w0 := w) w.heap.size 5 rfl (N := 41) rfl 22 _ _ rfl 6 a0 rfl rfl Try.underlying22 (.int .u8 0) 1 info5 rfl (by decide) (by omega) 0 (ok := fun _ => True) (okp := fun _ => True) rfl (fun _ hk => hk) trivial (by omega) LA.out (by have := LB.out; omega) HB.out (below_size HB.out) ?_; intro w12 ho13 hb hg_; have hA4 := Kd.R_cell 0 ho13 4 (by omega) (by simp); have hA5 := Kd.R_cell 0 ho13 5 (by omega) (by simp); have hc4 : w12.cell? ⟨wr.heap.size, 4, none⟩ = some (.int .u8 0) := hA4.1; have hf4 : w12.frozen? ⟨wr.heap.size, 4, none⟩ = false := hA4.2; have hc5 : w12.cell? ⟨wr.heap.size, 5, none⟩ = some (.int .u8 0) := hA5.1; have hf5 : w12.frozen? ⟨wr.heap.size, 5, none⟩ = false := hA5.2; clear hA4 hA5; have HO126 := Aside0.mk ho13; have HB' := Aside0.mk hb; have HG' := Aside0.mk hg_; clear ho13 hb hg_))
                  have HO126' := Aside0.mk (R_put' (R_put' HO126.out 4 (x6_2 / 256 % 256)) 5 (x6_2 % 256))
                  have HB := Aside0.mk (Below.setCell (p := ⟨wr.heap.size, 5, none⟩) (Below.setCell (p := ⟨wr.heap.size, 4, none⟩) HB'.out (below_size HB.out) (.int .u8 (x6_2 / 256 % 256))) (below_size HB.out) (.int .u8 (x6_2 % 256)))
                  go_loopg [9, 53] k2 (fun kq v9 v53 w' => ∃ (x9_3 : List Int) (x53_3 : Int), v53 = .int .i64 x53_3 ∧ Aside0 (wire_Box.l1 kq a0 x9_3 l1 (l1.length : Int) x53_3 = some (r1, r2)) ∧ Aside0 (kq ≤ k2) ∧ Aside0 (Kd.R (Kd.int .u8) 5 w' w.heap.size (fun _ => True) v9 x9_3) ∧ Aside0 (Below w.heap.size w w'))
                  case atStart => exact ⟨(boxHead x6_2), (0), (by first | rfl | (simp; done) | (simp [*]; done)), H', ⟨Nat.le_refl _⟩, ⟨by (with_reducible repeat (first | apply Kd.R_alloc | apply Kd.R_drewN | apply Kd.R_drew)); exact HO126'.out⟩, ⟨by repeat (first | (with_reducible first | exact HB.out | apply below_alloc | apply pw_below_drewN | apply below_drew1) | exact HB.out)⟩⟩
                  case round =>
                    clear H'
                    try clear c1
                    try clear p1
                    try clear q1
                    try clear hx1
                    try clear c2
                    try clear p2
                    try clear c4
                    try clear c4b0
                    try clear c5
                    try clear c6
                    try clear c6b0
                    try clear p6
                    try clear c7
                    try clear c7b0
                    try clear c8
                    try clear c8b0
                    try clear c9
                    try clear c9b0
                    try clear c10
                    try clear c10b0
                    try clear c11
                    try clear c11b0
                    try clear c11b1
                    try clear c12
                    try clear p12
                    try clear q12
                    try clear hx12
                    try clear hx123_0
                    try clear p123
                    try clear p2
                    try clear q123
                    obtain ⟨x9_3, x53_3, rfl, HA, HK3, HO_9, HB⟩ := hrel
                    cases gk with
                    | zero => exact absurd HA.out (by simp [wire_Box.l1])
                    | succ k3 =>
                      have H := HA.out
                      clear HA
                      simp only [wire_Box.l1] at H
                      by_cases c14 : x53_3 < (l1.length : Int)
                      · rw [if_pos c14] at H
                        have c14b0 : decide (x53_3 < (l1.length : Int)) = true := decide_eq_true c14
                        clear c14
                        by_cases c15 : 0 ≤ x53_3
                        · rw [if_pos c15] at H
                          have c15b0 : decide (0 ≤ x53_3) = true := decide_eq_true c15
                          clear c15
                          by_cases c16 : x53_3 < (l1.length : Int)
                          · rw [if_pos c16] at H
                            have c16b0 : decide (x53_3 < (l1.length : Int)) = true := decide_eq_true c16
                            clear c16
                            by_cases c17 : x9_3.length + (rd_L2 l1 x53_3).length < 140737488355328
                            · rw [if_pos c17] at H
                              have LMc17 := Aside0.mk c17
                              clear c17
                              obtain ⟨y128, hy128⟩ : ∃ y_ : List Int, y_ = (x9_3 ++ (rd_L2 l1 x53_3)) := ⟨_, rfl⟩
                              replace H : (wire_Box.l1 k3 a0 y128 l1 (l1.length : Int) (wrap64 (x53_3 + 1))) = some (r1, r2) := by first | (rw [hy128]; with_reducible exact H) | (have H2_ := (Option.bind_some _ _).symm.trans H; rw [hy128]; with_reducible exact H2_) | (have H2_ := (Option.bind_some _ _).symm.trans H; with_reducible exact H2_) | with_reducible exact H | (rw [hy128]; exact H) | exact H
                              have Ny128 := Aside0.mk hy128
                              clear hy128
                              have H' := Aside0.mk H
                              clear H
                              have p127 : 0 ≤ (x53_3 : Int) := of_decide_eq_true (by first | (with_reducible assumption) | assumption)
                              have q127 : x53_3 < (l1.length : Int) := of_decide_eq_true (by first | (with_reducible assumption) | assumption)
                              obtain ⟨ad127, A127_0, c127_0, e127, hx127_0, hl127_0, hi127_0⟩ := at_L2 HR1.out x53_3 p127 q127
                              cases e127
                              replace hx127_0 := (HB.out.cell (World.block_lt_of_cell? w _ hx127_0)).trans hx127_0
                              have HR127_0 := Aside0.mk hi127_0
                              have HC127_0 := Aside0.mk hl127_0
                              clear hi127_0 hl127_0
                              replace p127 := eq_true p127
                              replace q127 := eq_true q127
                              go_wp2_with (first | ((with_reducible refine gate_builtin (b := .append) (xs := #[.tmp 57, .tmp 58]) rfl ?_); at_builtin; refine Kd.R_append_rows (Kd.int .u8) (w0 := w) w.heap.size rfl (.tmp 57) (.tmp 58) 22 5 (.int .u8 0) 1 rfl Try.underlying22 info5 rfl (by decide) (by omega) u9 x9_3 (rd_L2 l1 x53_3) _ _ _ (fun _ => True) (fun _ => False) rfl rfl ?aO ?aR (fun _ _ h => h) (fun _ h => h.elim) ?aF ?aB ?aS ?aL ?_; (case aR => repeat (first | exact (Kd.C_below HR127_0.out HB.out) | (with_reducible refine Kd.C_alloc ?_ _) | (with_reducible refine Kd.C_drewN ?_ _) | (with_reducible refine Kd.C_drew ?_))); (case aB => exact (by repeat (first | (with_reducible first | exact HB.out | apply below_alloc | apply pw_below_drewN | apply below_drew1) | exact HB.out))); (case aF => exact (fun _ _ => trivial)); (case aO => exact (by (with_reducible repeat (first | apply Kd.R_alloc | apply Kd.R_drewN | apply Kd.R_drew)); exact HO_9.out)); (case aS => exact (below_size (by repeat (first | (with_reducible first | exact HB.out | apply below_alloc | apply pw_below_drewN | apply below_drew1) | exact HB.out)))); (case aL => have := LMc17.out; omega); intro v129 w18 ho hb hg hat; rw [← Ny128.out] at ho; have n0_ := Aside0.mk (hb); have n1_ := Aside0.mk (ho); clear HB; clear HO_9; have HB := n0_; have HO130 := n1_; clear n0_ n1_; clear ho hb hg hat))
                              go_roundg k3
                              case measure => have := HJ2.out; have := HK2.out; have := HK3.out; omega
                              case rel => exact ⟨(y128), (wrap64 (x53_3 + 1)), (by first | rfl | (simp; done) | (simp [*]; done)), H', ⟨by have := HJ2.out; have := HK2.out; have := HK3.out; omega⟩, ⟨by (with_reducible repeat (first | apply Kd.R_alloc | apply Kd.R_drewN | apply Kd.R_drew)); exact HO130.out⟩, ⟨by repeat (first | (with_reducible first | exact HB.out | apply below_alloc | apply pw_below_drewN | apply below_drew1) | exact HB.out)⟩⟩
                            · rw [if_neg c17] at H
                              exact absurd H (by simp)
                          · rw [if_neg c16] at H
                            exact absurd H (by simp)
                        · rw [if_neg c15] at H
                          exact absurd H (by simp)
                      · rw [if_neg c14] at H
                        have c14b0 : decide (x53_3 < (l1.length : Int)) = false := decide_eq_false c14
                        clear c14
                        obtain ⟨ji19, hji19⟩ : ∃ j_ : Int, (wrap64 (a0 - (x9_3.length : Int))) = j_ := ⟨_, rfl⟩
                        replace H : (if 0 ≤ (ji19) then (if x9_3.length + (ji19 : Int).toNat < 140737488355328 then ((some (x9_3 ++ List.replicate (ji19 : Int).toNat 0 : List Int)).bind fun y131 => (if 4 ≤ (y131.length : Int) then ((wire_Check.f k3 (([(y131.drop 4)] : List (List Int)))).bind fun t142 => (some (stamp y131 t142, none))) else (none))) else (none)) else (none)) = some (r1, r2) := by first | (rw [hji19] at H; exact H) | (simp only [hji19] at H ⊢; exact H)
                        have hji19w : (IntKind.i64.wrap (a0 - (x9_3.length : Int))) = ji19 := (i64_w _).trans hji19
                        by_cases c20 : 0 ≤ (ji19)
                        · rw [if_pos c20] at H
                          have c20b0 := eq_true c20
                          have c20b1 : decide (0 ≤ (ji19)) = true := decide_eq_true c20
                          clear c20
                          by_cases c21 : x9_3.length + (ji19 : Int).toNat < 140737488355328
                          · rw [if_pos c21] at H
                            have LMc21 := Aside0.mk c21
                            clear c21
                            obtain ⟨y131, hy131⟩ : ∃ y_ : List Int, y_ = (x9_3 ++ List.replicate (ji19 : Int).toNat 0) := ⟨_, rfl⟩
                            replace H : (if 4 ≤ (y131.length : Int) then ((wire_Check.f k3 (([(y131.drop 4)] : List (List Int)))).bind fun t142 => (some (stamp y131 t142, none))) else (none)) = some (r1, r2) := by first | (rw [hy131]; with_reducible exact H) | (have H2_ := (Option.bind_some _ _).symm.trans H; rw [hy131]; with_reducible exact H2_) | (have H2_ := (Option.bind_some _ _).symm.trans H; with_reducible exact H2_) | with_reducible exact H | (rw [hy131]; exact H) | exact H
                            have Ny131 := Aside0.mk hy131
                            clear hy131
                            by_cases c22 : 4 ≤ (y131.length : Int)
                            · rw [if_pos c22] at H
                              have c22b0 := eq_true c22
                              have c22b1 : decide (4 ≤ (y131.length : Int)) = true := decide_eq_true c22
                              clear c22
                              obtain ⟨y134, hy134⟩ : ∃ y_ : List Int, y_ = (y131.drop 4) := ⟨_, rfl⟩
                              replace H : ((wire_Check.f k3 (([y134] : List (List Int)))).bind fun t142 => (some (stamp y131 t142, none))) = some (r1, r2) := by first | (rw [hy134]; with_reducible exact H) | (have H2_ := (Option.bind_some _ _).symm.trans H; rw [hy134]; with_reducible exact H2_) | (have H2_ := (Option.bind_some _ _).symm.trans H; with_reducible exact H2_) | with_reducible exact H | (rw [hy134]; exact H) | exact H
                              have Ny134 := Aside0.mk hy134
                              clear hy134
                              obtain ⟨y139, hy139⟩ : ∃ y_ : List (List Int), y_ = (([y134] : List (List Int))) := ⟨_, rfl⟩
                              replace H : ((wire_Check.f k3 y139).bind fun t142 => (some (stamp y131 t142, none))) = some (r1, r2) := by first | (rw [hy139]; with_reducible exact H) | (have H2_ := (Option.bind_some _ _).symm.trans H; rw [hy139]; with_reducible exact H2_) | (have H2_ := (Option.bind_some _ _).symm.trans H; with_reducible exact H2_) | with_reducible exact H | (rw [hy139]; exact H) | exact H
                              have Ny139 := Aside0.mk hy139
                              clear hy139
                              replace H := Option.bind_eq_some_iff.mp H
                              obtain ⟨t142, A230, H⟩ := H
                              replace H : (some (stamp y131 t142, none)) = some (r1, r2) := H
                              have A23 := Aside0.mk A230
                              clear A230
                              simp only [Option.some.injEq, Prod.mk.injEq] at H
                              obtain ⟨rfl, rfl⟩ := H
                              obtain ⟨Ao24, co24, eo24⟩ := Kd.R_slice HO_9.out
                              subst eo24
                              go_wp2_with (first | (at_builtin; refine Kd.R_append_zeros (Kd.int .u8) (w0 := w) w.heap.size rfl (.tmp 61) (.tmp 65) 22 3 5 (.int .u8 0) 1 rfl Try.underlying22 Try.underlying3 info5 rfl (by decide) (by omega) (.slice Ao24 x9_3.length co24) x9_3 0 (ji19 : Int) (fun _ => True) rfl rfl rfl ?aF ?aO (of_decide_eq_true (by first | (with_reducible assumption) | assumption)) ?aB ?aS ?aL ?_; (case aB => exact (by repeat (first | (with_reducible first | exact HB.out | apply below_alloc | apply pw_below_drewN | apply below_drew1) | exact HB.out))); (case aF => exact (fun _ _ => trivial)); (case aO => exact (by (with_reducible repeat (first | apply Kd.R_alloc | apply Kd.R_drewN | apply Kd.R_drew)); exact HO_9.out)); (case aS => exact (below_size (by repeat (first | (with_reducible first | exact HB.out | apply below_alloc | apply pw_below_drewN | apply below_drew1) | exact HB.out)))); (case aL => have := LMc21.out; omega); intro v132 w25 ho hb hg hat; rw [← Ny131.out] at ho; have n0_ := Aside0.mk (hb); have n1_ := Aside0.mk (ho); clear HB; clear HO_9; have HB := n0_; have HO133 := n1_; clear n0_ n1_; clear ho hb hg hat; obtain ⟨Ao27, co27, eo27⟩ := Kd.R_slice HO133.out; subst eo27; have q26 : (4 : Int) ≤ ((y131.length : Int) : Int) := of_decide_eq_true (by first | (with_reducible assumption) | assumption); obtain ⟨i026, hi026, _, hsz26, _⟩ := info_parts info5; have hroom26 : y131.length ≤ co27 := (Kd.R_reads' HO133.out).2.1; have hC26 : Kd.F (Kd.int .u8) _ _ Ao27 y131.length y131 := (Kd.V_at (base := w.heap.size) (Kd.R_V HO133.out)).2.2; have hcut26 := cut_from (P := Try.prog) 22 5 .i64 Try.underlying22 hi026 1 hsz26 Ao27 y131.length co27 4 (by omega) q26; have hr26 := Kd.F_cut (m := (4 : Int).toNat) (c := co27) hC26 (by omega) hroom26; obtain ⟨A26, hA26⟩ : ∃ A1, A1 = (if co27 = (4 : Int).toNat then Ao27 else (Ao27 : Option Addr).map (·.add ((4 : Int).toNat * 1))) := ⟨_, rfl⟩; obtain ⟨c26, hc26⟩ : ∃ c1, c1 = co27 - (4 : Int).toNat := ⟨_, rfl⟩; have hy26 : y134.length = y131.length - (4 : Int).toNat := (by rw [Ny134.out, List.length_drop] <;> omega); rw [show (y131).drop (4 : Int).toNat = y134 from Ny134.out.symm] at hr26; replace hr26 : Kd.F (Kd.int .u8) _ _ A26 y134.length y134 := (by rw [hA26]; exact hr26); rw [← hy26, ← hA26, ← hc26] at hcut26; have HO138 := Aside0.mk (show Kd.V (Kd.int .u8) 5 _ w.heap.size _ (.slice A26 y134.length c26) y134 from Kd.V_mk (by rw [hy26, hc26]; exact Nat.sub_le_sub_right hroom26 _) hr26); have HC138 := Aside0.mk (show y134.length ≤ c26 from by rw [hy26, hc26]; exact Nat.sub_le_sub_right hroom26 _); clear hr26 hC26 hroom26 hi026 hsz26 hc26; have KY26 := Aside0.mk hy26; have KA26 := Aside0.mk hA26; clear hy26 hA26; replace q26 := eq_true q26) | ((with_reducible refine gate_dst (N := 69) rfl ?_); refine Kd.N_lit (Kd.slice 5 (Kd.int .u8)) _ 22 ?hg (N' := 69) ?hd (xs := ([y134] : List (List Int))) (inner := [.slice A26 y134.length c26]) (ok := (fun _ => True)) (okp := (fun _ => True)) ?hr ?hp (fun _ hk => hk) ((show ∀ k_, w25.heap.size ≤ k_ → (fun _ => True) k_ from fun k_ hk => trivial) _ (Nat.le_refl _)) (Below.refl _ _) (Nat.le_refl _) (by simp) ?_; (case hd => rfl); (case hg => rfl); (case hr => first | (go_simp; done) | (go_simp; rfl)); (case hp => exact (Reps.one (show Kd.FK (Kd.slice 5 (Kd.int .u8)) _ _ y134 [.slice A26 y134.length c26] from (Kd.FK_slice_mk (Kd.V_reads' (Kd.V_mono (ok' := (fun _ => True)) (HO138.out) (fun k_ hk => trivial))).2.1 (Kd.V_F (Kd.V_mono (ok' := (fun _ => True)) (HO138.out) (fun k_ hk => trivial))))) (Reps.none _ _))); intro v140 w28 ho29 hb hg_ hnew_; clear hg_ hnew_; (first | rw [← Ny139.out] at ho29 | (simp only [Int.reduceToNat] at ho29; rw [← Ny139.out] at ho29)); have n0_ := Aside0.mk (Kd.R_below (by (with_reducible repeat (first | apply Kd.R_alloc | apply Kd.R_drewN | apply Kd.R_drew)); exact HO133.out) hb); have n1_ := Aside0.mk (Kd.V_elder' (by (with_reducible repeat (first | apply Kd.V_alloc | apply Kd.V_drewN | apply Kd.V_drew)); exact HO138.out) (Kd.N_base ho29) hb); have n2_ := Aside0.mk (Kd.N_lower ho29 (below_size (by repeat (first | (with_reducible first | exact HB.out | apply below_alloc | apply pw_below_drewN | apply below_drew1) | exact HB.out)))); have n3_ := Aside0.mk (below_step (by repeat (first | (with_reducible first | exact HB.out | apply below_alloc | apply pw_below_drewN | apply below_drew1) | exact HB.out)) hb); clear HO133; clear HO138; clear HB; have HO133 := n0_; have HO138 := n1_; have HO141 := n2_; have HB := n3_; clear n0_ n1_ n2_ n3_; clear hb ho29; obtain ⟨Ao30, co30, eo30⟩ := Kd.N_slice HO141.out; subst eo30) | ((with_reducible refine gate_callee (f := 47) rfl ?_); refine goesL_ (some 70) rfl rfl Try.func47 (by kernel_rfl) rfl #[.slice Ao30 y139.length co30] rfl (by (try simp only [List.map_toArray, List.map_cons, List.map_nil]); first | done | rfl | (simp only [List.length_drop, List.length_take]; rfl)) ?_; (with_reducible refine (wire_Check.calls k3 _ _ y139 t142 _ ?side1 ?side2 A23.out).mono ?_); (case side1 => repeat (first | exact (Kd.N_reads' HO141.out).2.2 | (with_reducible refine Kd.C_alloc ?_ _) | (with_reducible refine Kd.C_drewN ?_ _) | (with_reducible refine Kd.C_drew ?_))); (case side2 => exact (Kd.N_reads' HO141.out).2.1); rintro e w' ⟨rfl, ⟨nd, rfl⟩⟩; refine ⟨_, rfl, ?_⟩; have c22x := of_decide_eq_true c22b1; obtain ⟨g27, hAo27, hgb27, hgl27, _⟩ := R_form HO133.out (by omega); subst hAo27; have hA0 := Kd.R_cell 0 HO133.out 0 (by omega) (by omega); have hA1 := Kd.R_cell 0 HO133.out 1 (by omega) (by omega); have hA2 := Kd.R_cell 0 HO133.out 2 (by omega) (by omega); have hA3 := Kd.R_cell 0 HO133.out 3 (by omega) (by omega); have hc0 : w28.cell? ⟨g27, 0, none⟩ = some (.int .u8 (rdOf 0 y131 0)) := hA0.1; have hf0 : w28.frozen? ⟨g27, 0, none⟩ = false := hA0.2; have hc1 : w28.cell? ⟨g27, 1, none⟩ = some (.int .u8 (rdOf 0 y131 1)) := hA1.1; have hf1 : w28.frozen? ⟨g27, 1, none⟩ = false := hA1.2; have hc2 : w28.cell? ⟨g27, 2, none⟩ = some (.int .u8 (rdOf 0 y131 2)) := hA2.1; have hf2 : w28.frozen? ⟨g27, 2, none⟩ = false := hA2.2; have hc3 : w28.cell? ⟨g27, 3, none⟩ = some (.int .u8 (rdOf 0 y131 3)) := hA3.1; have hf3 : w28.frozen? ⟨g27, 3, none⟩ = false := hA3.2; clear hA0 hA1 hA2 hA3; have q0 : 0 < y131.length := by omega; have q1 : 1 < y131.length := by omega; have q2 : 2 < y131.length := by omega; have q3 : 3 < y131.length := by omega; clear c22x))
                              (with_reducible refine (wire_Check.calls k3 _ _ y139 t142 _ ?side1 ?side2 A23.out).mono ?_)
                              case side1 => exact (Kd.N_reads' HO141.out).2.2
                              case side2 => exact (Kd.N_reads' HO141.out).2.1
                              rintro e w' ⟨rfl, ⟨nd, rfl⟩⟩
                              have c22x := of_decide_eq_true c22b1
                              obtain ⟨g27, hAo27, hgb27, hgl27, _⟩ := R_form HO133.out (by omega)
                              subst hAo27
                              have hA0 := Kd.R_cell 0 HO133.out 0 (by omega) (by omega)
                              have hA1 := Kd.R_cell 0 HO133.out 1 (by omega) (by omega)
                              have hA2 := Kd.R_cell 0 HO133.out 2 (by omega) (by omega)
                              have hA3 := Kd.R_cell 0 HO133.out 3 (by omega) (by omega)
                              have hc0 : w28.cell? ⟨g27, 0, none⟩ = some (.int .u8 (rdOf 0 y131 0)) := hA0.1
                              have hf0 : w28.frozen? ⟨g27, 0, none⟩ = false := hA0.2
                              have hc1 : w28.cell? ⟨g27, 1, none⟩ = some (.int .u8 (rdOf 0 y131 1)) := hA1.1
                              have hf1 : w28.frozen? ⟨g27, 1, none⟩ = false := hA1.2
                              have hc2 : w28.cell? ⟨g27, 2, none⟩ = some (.int .u8 (rdOf 0 y131 2)) := hA2.1
                              have hf2 : w28.frozen? ⟨g27, 2, none⟩ = false := hA2.2
                              have hc3 : w28.cell? ⟨g27, 3, none⟩ = some (.int .u8 (rdOf 0 y131 3)) := hA3.1
                              have hf3 : w28.frozen? ⟨g27, 3, none⟩ = false := hA3.2
                              clear hA0 hA1 hA2 hA3
                              have q0 : 0 < y131.length := by omega
                              have q1 : 1 < y131.length := by omega
                              have q2 : 2 < y131.length := by omega
                              have q3 : 3 < y131.length := by omega
                              have hfin := R_put' (R_put' (R_put' (R_put' (Kd.R_drewN HO133.out nd) 0 ((t142 / 16777216) % 256)) 1 ((t142 / 65536) % 256)) 2 ((t142 / 256) % 256)) 3 (t142 % 256)
                              have hbel := Below.setCell (p := ⟨g27, 3, none⟩) (Below.setCell (p := ⟨g27, 2, none⟩) (Below.setCell (p := ⟨g27, 1, none⟩) (Below.setCell (p := ⟨g27, 0, none⟩) (pw_below_drewN HB.out nd) hgb27 (.int .u8 ((t142 / 16777216) % 256))) hgb27 (.int .u8 ((t142 / 65536) % 256))) hgb27 (.int .u8 ((t142 / 256) % 256))) hgb27 (.int .u8 (t142 % 256))
                              have HF := Aside0.mk hfin
                              have HBF := Aside0.mk hbel
                              clear hfin hbel c22x
                              go_wp2
                              go_ret2
                              exact ⟨_, rfl, HF.out, HBF.out⟩
                            · rw [if_neg c22] at H
                              exact absurd H (by simp)
                          · rw [if_neg c21] at H
                            exact absurd H (by simp)
                        · rw [if_neg c20] at H
                          exact absurd H (by simp)
                · rw [if_neg c11'] at H
                  exact absurd H (by simp)
              · rw [if_neg c11] at H
                exact absurd H (by simp)

end Go.Proofs.Ytbphmpncajfaiaa.Py
