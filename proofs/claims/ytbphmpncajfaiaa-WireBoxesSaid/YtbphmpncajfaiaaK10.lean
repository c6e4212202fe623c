/- WireBoxes: the cases joined. -/
import Derived.Test.YtbphmpncajfaiaaK9
import Derived.Test.YtbphmpncajfaiaaM4
namespace Go.Proofs.Ytbphmpncajfaiaa.K
open Go.RowKit Go.Proofs.Ytbphmpncajfaiaa.M Go.Proofs.Ytbphmpncajfaiaa.Py Go.Proofs.YtbphmpncajfaiaaW.PrintWords
set_option linter.unusedVariables false
theorem all_two {P : List Int → Prop} {a b : List Int} (ha : P a) (hb : P b) : ∀ l ∈ [a, b], P l := fun l hl => by
  simp only [List.mem_cons, List.not_mem_nil, or_false] at hl
  rcases hl with rfl | rfl
  · exact ha
  · exact hb
theorem boxes_true (size : Int) (A B : Option Addr) (ca cb : Nat) (la lb : List Int) (w : World) (hA : Kd.C (Kd.int .u8) w A la.length la) (hB : Kd.C (Kd.int .u8) w B lb.length lb) (hca : la.length ≤ ca) (hcb : lb.length ≤ cb)
    (ba : Bytes la) (bb : Bytes lb) (sa : la.length ≤ 140737488355328) (sb : lb.length ≤ 140737488355328) :
    Calls Try.prog 5 #[.int .i64 size, .slice A la.length ca, .slice B lb.length cb] w fun e w' => e = .returned (.bool true) ∧ Below w.heap.size w w' := by
  obtain ⟨K1, h1⟩ := large_comes (ls := [la, lb]) (all_two sa sb) (by simp)
  have h1 := h1 K1 (Nat.le_refl _)
  have hfl : [la, lb].flatten = la ++ lb := by simp
  rw [hfl, List.length_append] at h1
  by_cases hlg : 131072 < la.length + lb.length
  · rw [decide_eq_true hlg] at h1
    exact boxes_large size A B ca cb la lb w hA hB hca hcb K1 h1
  · rw [decide_eq_false hlg] at h1
    have bw : Bytes (la ++ lb) := ba.append bb
    have lw : (la ++ lb).length ≤ 131072 := by rw [List.length_append]; omega
    obtain ⟨K2, h2⟩ := box_comes size (ls := [la, lb]) (all_two (P := fun l => Bytes l ∧ l.length ≤ 140737488355328) ⟨ba, sa⟩ ⟨bb, sb⟩) (by simp)
    have h2 := h2 K2 (Nat.le_refl _)
    rw [hfl] at h2
    obtain ⟨K3, h3⟩ := ref_box size bw (by omega)
    have h3 := h3 K3 (Nat.le_refl _)
    have h4 := num_f (boxOf size (la ++ lb)).2 boxOf_code
    obtain ⟨K5, h5⟩ := unbox_comes ba sa
    have h5 := h5 K5 (Nat.le_refl _)
    obtain ⟨K6, h6⟩ := ref_unbox ba (by omega)
    have h6 := h6 K6 (Nat.le_refl _)
    have hcode := boxOf_code (size := size) (fl := la ++ lb)
    cases hr : (boxOf size (la ++ lb)).2 with
    | some er =>
      have hbx : boxOf size (la ++ lb) = ((boxOf size (la ++ lb)).1, some er) := by rw [← hr]
      rw [hr] at h3 h4
      rw [hbx] at h2
      rcases unbox_two la with hu | hu <;> rw [hu] at h5 h6
      · exact boxes_a size A B ca cb la lb w hA hB hca hcb K1 K2 K3 K5 K6 h1 (by omega) _ _ er _ h2 h3 h4 h5 h6
      · exact boxes_b size A B ca cb la lb w hA hB hca hcb K1 K2 K3 K5 K6 h1 (by omega) _ _ er _ h2 h3 h4 h5 h6
    | none =>
      have hbx : boxOf size (la ++ lb) = ((boxOf size (la ++ lb)).1, none) := by rw [← hr]
      have hlen := boxOf_len hr
      have hok := boxOf_ok hr
      obtain ⟨K7, h7⟩ := unbox_comes (boxOf_bytes (size := size) bw) (by omega)
      have h7 := h7 K7 (Nat.le_refl _)
      rw [unbox_box hr] at h7
      rw [hr] at h3 h4
      rw [hbx] at h2
      rcases unbox_two la with hu | hu <;> rw [hu] at h5 h6
      · exact boxes_c size A B ca cb la lb w hA hB hca hcb K1 K2 K3 K5 K6 K7 h1 (by omega) _ _ 0 _ h2 h3 h4 h5 h6 h7
      · exact boxes_d size A B ca cb la lb w hA hB hca hcb K1 K2 K3 K5 K6 K7 h1 (by omega) _ _ 0 _ h2 h3 h4 h5 h6 h7
end Go.Proofs.Ytbphmpncajfaiaa.K
