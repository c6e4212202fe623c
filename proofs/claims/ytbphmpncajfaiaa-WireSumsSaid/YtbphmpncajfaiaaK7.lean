/- WireSums' own call. -/
import Derived.Test.YtbphmpncajfaiaaK6
import Derived.Test.YtbphmpncajfaiaaM4
namespace Go.Proofs.Ytbphmpncajfaiaa.K
open Go.RowKit Go.Proofs.Ytbphmpncajfaiaa.M Go.Proofs.Ytbphmpncajfaiaa.Py Go.Proofs.YtbphmpncajfaiaaW.PrintWords Go.Proofs.YtbphmpncajfaiaaW.PrintLast Go.Proofs.YtbphmpncajfaiaaW.PrintMore
set_option linter.unusedVariables false
set_option linter.unusedSimpArgs false
theorem two_mem {P : List Int → Prop} {a b : List Int} (ha : P a) (hb : P b) : ∀ l ∈ [a, b], P l := fun l hl => by
  simp only [List.mem_cons, List.not_mem_nil, or_false] at hl
  rcases hl with rfl | rfl
  · exact ha
  · exact hb
theorem one_mem {P : List Int → Prop} {a : List Int} (ha : P a) : ∀ l ∈ [a], P l := fun l hl => by
  rw [List.mem_singleton] at hl
  subst hl
  exact ha
theorem checks_true (at_ d : Int) (A B : Option Addr) (ca cb : Nat) (la lb : List Int) (w : World) (hA : Kd.C (Kd.int .u8) w A la.length la) (hB : Kd.C (Kd.int .u8) w B lb.length lb) (hca : la.length ≤ ca) (hcb : lb.length ≤ cb)
    (ba : Bytes la) (bb : Bytes lb) (sa : la.length ≤ 140737488355328) (sb : lb.length ≤ 140737488355328) (hd : 0 ≤ d ∧ d < 256) :
    Calls Try.prog 15 #[.slice A la.length ca, .slice B lb.length cb, .int .i64 at_, .int .u8 d] w fun e w' => e = .returned (.bool true) ∧ Below w.heap.size w w' := by
  obtain ⟨K1, h1⟩ := large_comes (ls := [la, lb]) (two_mem sa sb) (by simp)
  have h1 := h1 K1 (Nat.le_refl _)
  have hfl : [la, lb].flatten = la ++ lb := by simp
  rw [hfl, List.length_append] at h1
  by_cases hlg : 131072 < la.length + lb.length
  · rw [decide_eq_true hlg] at h1
    exact checks_large at_ d A B ca cb la lb w hA hB hca hcb K1 h1
  · rw [decide_eq_false hlg] at h1
    have hbw : Bytes (la ++ lb) := ba.append bb
    have hlw : (la ++ lb).length ≤ 131072 := by rw [List.length_append]; omega
    have h2 := ref_check hbw (by omega) (10 * (la ++ lb).length + 1) (Nat.le_refl _)
    have h3 := wire_check (ls := [la, lb]) (two_mem (P := fun l => Bytes l ∧ l.length ≤ 140737488355328) ⟨ba, sa⟩ ⟨bb, sb⟩) (by simp) _ (Nat.le_refl _)
    have h4 := wire_check (ls := [la ++ lb]) (one_mem (P := fun l => Bytes l ∧ l.length ≤ 140737488355328) ⟨hbw, by omega⟩) (by simp) _ (Nat.le_refl _)
    rw [hfl] at h3
    rw [show [la ++ lb].flatten = la ++ lb by simp] at h4
    by_cases h0 : (la ++ lb).length = 0
    · exact checks_empty at_ d A B ca cb la lb w hA hB hca hcb K1 _ _ _ h1 (by omega) _ h2 h3 h4 h0
    · by_cases hd0 : d = 0
      · exact checks_zero at_ d A B ca cb la lb w hA hB hca hcb K1 _ _ _ h1 (by omega) _ h2 h3 h4 h0 hd0
      · obtain ⟨i, hi, hat⟩ := u64_mod at_ ((la ++ lb).length : Int) (by omega) (by omega)
        have hi' : i < (la ++ lb).length := by omega
        have hrd : rd (la ++ lb) i = (la ++ lb)[i] := by
          unfold rd
          rw [List.getD_eq_getElem?_getD, Int.toNat_natCast, List.getElem?_eq_getElem hi']
          rfl
        have hx := xor_u8 (hbw _ (List.getElem_mem hi')) hd hd0
        obtain ⟨a, x, b, e1, e2, e3, e4⟩ := set_split hi' (Go.bits .xor .u8 (rd (la ++ lb) i) d)
        have hbs : Bytes ((la ++ lb).set i (Go.bits .xor .u8 (rd (la ++ lb) i) d)) := fun z hz => by
          rcases List.mem_or_eq_of_mem_set hz with h7 | h7
          · exact hbw z h7
          · rw [h7, hrd]
            exact hx.1
        have h5 := wire_check (ls := [(la ++ lb).set i (Go.bits .xor .u8 (rd (la ++ lb) i) d)]) (one_mem (P := fun l => Bytes l ∧ l.length ≤ 140737488355328) ⟨hbs, by rw [List.length_set]; omega⟩) (by simp) _ (Nat.le_refl _)
        rw [show [(la ++ lb).set i (Go.bits .xor .u8 (rd (la ++ lb) i) d)].flatten = (la ++ lb).set i (Go.bits .xor .u8 (rd (la ++ lb) i) d) by simp] at h5
        have hne : crc ((la ++ lb).set i (Go.bits .xor .u8 (rd (la ++ lb) i) d)) ≠ crc (la ++ lb) := by
          rw [e2]
          have := crc_change (l := a) (m := b) (x := x) (y := Go.bits .xor .u8 (rd (la ++ lb) i) d) (e1 ▸ hbw) (by rw [hrd]; exact hx.1) (by rw [e3, hrd]; exact hx.2)
          rw [← e1] at this
          exact this.symm
        exact checks_turn at_ d A B ca cb la lb w hA hB hca hcb K1 _ _ _ _ h1 (by omega) _ h2 h3 h4 (by omega) hd0 i hi' hat _ hne h5
theorem sums_calls (at_ d : Int) (A B : Option Addr) (ca cb : Nat) (la lb : List Int) (w : World) (hA : Kd.C (Kd.int .u8) w A la.length la) (hB : Kd.C (Kd.int .u8) w B lb.length lb) (hca : la.length ≤ ca) (hcb : lb.length ≤ cb)
    (ba : Bytes la) (bb : Bytes lb) (sa : la.length ≤ 140737488355328) (sb : lb.length ≤ 140737488355328) (hd : 0 ≤ d ∧ d < 256) :
    Calls Try.prog 3 #[.agg #[.slice A la.length ca, .slice B lb.length cb, .int .i64 at_, .int .u8 d]] w fun e w' => e = .returned (.bool true) ∧ Below w.heap.size w w' := by
  have HA := Aside0.mk hA
  have HB := Aside0.mk hB
  have HCA := Aside0.mk hca
  have HCB := Aside0.mk hcb
  have BA := Aside0.mk ba
  have BB := Aside0.mk bb
  clear hA hB hca hcb ba bb
  go_enter Try.func3, Try.ntmps3
  go_wp2_with (go_at_call 15; (with_reducible refine (checks_true at_ d A B ca cb la lb _ ?side1 ?side2 HCA.out HCB.out BA.out BB.out sa sb hd).mono ?_); (case side1 => exact Kd.C_alloc HA.out _); (case side2 => exact Kd.C_alloc HB.out _); rintro e w' ⟨rfl, hb_⟩)
  go_ret
  exact ⟨rfl, below_then (below_alloc (Below.refl _ _) _) (below_size (below_alloc (Below.refl _ _) _)) hb_⟩
end Go.Proofs.Ytbphmpncajfaiaa.K
