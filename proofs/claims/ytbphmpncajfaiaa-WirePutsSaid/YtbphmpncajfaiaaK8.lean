/- Copy and Kept: a copy of bytes with two marks in its spare room. -/
import Derived.Test.YtbphmpncajfaiaaK2
import Derived.Test.YtbphmpncajfaiaaM1
namespace Go.Proofs.Ytbphmpncajfaiaa.K
open Go.RowKit Go.Proofs.Ytbphmpncajfaiaa.M Go.Proofs.Ytbphmpncajfaiaa.Py Go.Proofs.YtbphmpncajfaiaaW.PrintWords Go.Proofs.YtbphmpncajfaiaaW.PrintLast Go.Proofs.YtbphmpncajfaiaaW.PrintMore
set_option linter.unusedVariables false
set_option linter.unusedSimpArgs false
theorem cut_cap {P : Program} (t e : TypeId) (kh : IntKind) {i : TypeInfo} (ht : P.underlying t = some (.slice e)) (hi : P.info? e = some i) (A : Option Addr) (n c : Nat) (j : Int) (h0 : 0 ≤ j) (hm : j ≤ c) :
    ∀ W : World, (Instr.slice t (.slice A n c) none (some (.int kh j)) none).run P W = .ok (.slice A j.toNat c) W := by
  intro W
  have hel : P.elem t = e := by simp [Program.elem, ht]
  have hu : P.underlying t = some (.slice (P.elem t)) := by rw [hel]; exact ht
  have ha : (A.map fun x => x.add 0) = A := by cases A <;> simp [Addr.add]
  rw [run_slice_h W t A n c hu kh j h0 (by omega), hel]
  simp [sizeOf, typeInfo, hi, sliced, Result.andThen, ha]
set_option maxHeartbeats 8000000 in
set_option maxRecDepth 100000 in
theorem copy_calls (A0 : Option Addr) (c0 : Nat) (l : List Int) (w : World) (hC : Kd.C (Kd.int .u8) w A0 l.length l) (hc : l.length ≤ c0) (hl : l.length ≤ 1099511627776) :
    Calls Try.prog 18 #[.slice A0 l.length c0] w fun e w' => ∃ A c, e = .returned (.slice A l.length c) ∧ Kd.R (Kd.int .u8) 5 w' w.heap.size (fun _ => True) (.slice A (l.length + 2) c) (l ++ [165, 90]) ∧ l.length + 2 ≤ c ∧ Below w.heap.size w w' := by
  have HC := Aside0.mk hC
  have LC := Aside0.mk hc
  have LL := Aside0.mk hl
  clear hC hc hl
  obtain ⟨mk, hmk⟩ : ∃ m : List Int, m = [165, 90] := ⟨_, rfl⟩
  have Nmk := Aside0.mk hmk
  obtain ⟨y, hy⟩ : ∃ y : List Int, y = l ++ mk := ⟨_, rfl⟩
  have Ny := Aside0.mk hy
  have hyl : y.length = l.length + 2 := by rw [hy, hmk]; simp
  have HYL := Aside0.mk hyl
  clear hy hyl hmk
  have Lx : (l.length : Int) ≤ 1099511627776 := by have := LL.out; omega
  obtain ⟨i0, hi0, _, hsz, _⟩ := info_parts info5
  go_enter Try.func18, Try.ntmps18
  go_wp2_with (first | ((with_reducible refine gate_dst (N := 6) rfl ?_); refine R_make_cap (Kd.int .u8) (w0 := w) w.heap.size 5 rfl (N := 6) rfl 22 _ _ rfl 0 ((l.length : Int) + 2) rfl rfl Try.underlying22 (.int .u8 0) 1 info5 rfl (by decide) (by omega) 0 (ok := fun _ => True) (okp := fun _ => True) rfl (fun _ hk => hk) trivial (by omega) (by omega) (by have := LL.out; omega) (Below.refl _ _) (Nat.le_refl _) ?_; intro w_a ho_ hb_ hg_; have ho2_ : Kd.R (Kd.int .u8) 5 w_a w.heap.size (fun _ => True) (.slice (some ⟨w.heap.size, 0, none⟩) 0 (l.length + 2)) [] := ho_; have HOWN := Aside0.mk ho2_; clear ho2_; have HOB := Aside0.mk hb_; clear ho_ hb_ hg_) | ((with_reducible refine gate_builtin (b := .append) (xs := #[.tmp 6, .tmp 7]) rfl ?_); at_builtin; (refine Kd.R_append_rows (Kd.int .u8) (w0 := w) w.heap.size rfl (.tmp 6) (.tmp 7) 22 5 (.int .u8 0) 1 rfl Try.underlying22 info5 rfl (by decide) (by omega) (.slice (some ⟨w.heap.size, 0, none⟩) 0 (l.length + 2)) [] l _ _ _ (fun _ => True) (fun _ => False) rfl rfl ?aO ?aR (fun _ _ h => h) (fun _ h => h.elim) ?aF ?aB ?aS ?aL ?_; (case aO => exact HOWN.out); (case aR => exact Kd.C_below HC.out HOB.out); (case aB => exact HOB.out); (case aF => exact (fun _ _ => trivial)); (case aS => exact below_size HOB.out); (case aL => have := LL.out; simp; omega); intro v_b w_b ho_ hb_ hg_ hat_; replace ho_ : Kd.R (Kd.int .u8) 5 w_b w.heap.size (fun _ => True) v_b l := ho_; replace HOWN := Aside0.mk ho_; replace HOB := Aside0.mk hb_; clear ho_ hb_ hg_ hat_)) | ((with_reducible refine gate_dst (N := 9) rfl ?_); refine C_lit (Kd.int .u8) 5 ?hg (N := 9) ?hd (xs := [165, 90]) (inner := [.int .u8 165, .int .u8 90]) ?hr ?hp (by simp) ?_; (case hd => rfl); (case hg => rfl); (case hr => first | (go_simp; done) | (go_simp; rfl)); (case hp => exact Reps.one rfl (Reps.one rfl (Reps.none _ _))); intro w_c A_c c_c hc_ l_c hb_; rw [← Nmk.out] at hc_ l_c ⊢; have CMK := Aside0.mk hc_; replace HOWN := Aside0.mk (Kd.R_below HOWN.out hb_); replace HOB := Aside0.mk (below_step HOB.out hb_); clear hc_ l_c hb_) | ((with_reducible refine gate_builtin (b := .append) (xs := #[.tmp 8, .tmp 9]) rfl ?_); at_builtin; refine Kd.R_append_rows (Kd.int .u8) (w0 := w) w.heap.size rfl (.tmp 8) (.tmp 9) 22 5 (.int .u8 0) 1 rfl Try.underlying22 info5 rfl (by decide) (by omega) v_b l mk _ _ _ (fun _ => True) (fun _ => False) rfl rfl ?aO ?aR (fun _ _ h => h) (fun _ h => h.elim) ?aF ?aB ?aS ?aL ?_; (case aO => exact HOWN.out); (case aR => exact CMK.out); (case aB => exact HOB.out); (case aF => exact (fun _ _ => trivial)); (case aS => exact below_size HOB.out); (case aL => have := LL.out; rw [Nmk.out]; simp; omega); intro v_d w_d ho_ hb_ hg_ hat_; rw [← Ny.out] at ho_; replace HOWN := Aside0.mk ho_; replace HOB := Aside0.mk hb_; clear ho_ hb_ hg_ hat_; obtain ⟨A_d, c_d, e_d⟩ := Kd.R_slice HOWN.out; subst e_d; have HRM := Aside0.mk (Kd.R_reads' HOWN.out).2.1; have hcut := cut_to (P := Try.prog) 22 5 .i64 Try.underlying22 hi0 A_d y.length c_d (l.length : Int) (by omega) (by have := HYL.out; omega) HRM.out; simp only [Int.toNat_natCast] at hcut))
  go_ret
  refine ⟨A_d, c_d, rfl, ?_, by have := HRM.out; have := HYL.out; omega, HOB.out⟩
  have h := HOWN.out
  rw [HYL.out, Ny.out, Nmk.out] at h
  exact h
set_option maxHeartbeats 8000000 in
set_option maxRecDepth 100000 in
theorem kept_calls (A A1 : Option Addr) (c c1 base : Nat) (l : List Int) (w : World) (hR : Kd.R (Kd.int .u8) 5 w base (fun _ => True) (.slice A (l.length + 2) c) (l ++ [165, 90])) (hcc : l.length + 2 ≤ c) (hC : Kd.C (Kd.int .u8) w A1 l.length l) (hc : l.length ≤ c1) (hl : l.length ≤ 1099511627776) (hcm : c ≤ 9223372036854775807) :
    Calls Try.prog 23 #[.slice A l.length c, .slice A1 l.length c1] w fun e w' => e = .returned (.bool true) ∧ Below w.heap.size w w' := by
  have hyl : (l ++ [165, 90]).length = l.length + 2 := by simp
  obtain ⟨g, rfl, hgb, hgl, hbad⟩ := R_form hR (by omega)
  clear hbad
  have hR' : Kd.R (Kd.int .u8) 5 w base (fun _ => True) (.slice (some ⟨g, 0, none⟩) (l ++ [165, 90]).length c) (l ++ [165, 90]) := by rw [hyl]; exact hR
  have hA := Kd.R_cell 0 hR' (l.length : Int) (by omega) (by omega)
  have hB := Kd.R_cell 0 hR' ((l.length : Int) + 1) (by omega) (by omega)
  have e1 : ((l.length : Int) + 1).toNat = l.length + 1 := by omega
  simp only [rdOf, Int.toNat_natCast, e1] at hA hB
  have hc1 : w.cell? ⟨g, l.length, none⟩ = some (.int .u8 165) := by simpa using hA.1
  have hc2 : w.cell? ⟨g, l.length + 1, none⟩ = some (.int .u8 90) := by simpa using hB.1
  have hT := Kd.R_take hR' (m := l.length) (by omega)
  rw [List.take_left] at hT
  have hcv1 := own_string (P := Try.prog) Try.underlying22 Try.underlying5 Try.underlying9 (Kd.own_of_R hT)
  have hcv2 := Kd.C_string (P := Try.prog) (A := A1) (c := c1) Try.underlying22 Try.underlying5 Try.underlying9 hC
  obtain ⟨i0, hi0, _, hsz, _⟩ := info_parts info5
  have hcut := cut_cap (P := Try.prog) 22 5 .i64 Try.underlying22 hi0 (some ⟨g, 0, none⟩) l.length c ((l.length : Int) + 2) (by omega) (by omega)
  have e2 : ((l.length : Int) + 2).toNat = l.length + 2 := by omega
  rw [e2] at hcut
  have Lx : (l.length : Int) ≤ 1099511627776 := by omega
  have hlt : decide ((c : Int) < (l.length : Int) + 2) = false := decide_eq_false (by omega)
  have q1 : l.length < l.length + 2 := by omega
  have q2 : l.length + 1 < l.length + 2 := by omega
  have q3 : ((l.length : Int)) < (l.length : Int) + 2 := by omega
  have q4 : ((l.length : Int)) + 1 < (l.length : Int) + 2 := by omega
  have q5 : 0 ≤ (l.length : Int) + 1 := by omega
  clear hA hB e2 hyl hR hR' hT hC hi0 hsz hcc
  go_enter Try.func23, Try.ntmps23
  go_wp2
  go_ret
  exact ⟨rfl, Below.refl _ _⟩
end Go.Proofs.Ytbphmpncajfaiaa.K
