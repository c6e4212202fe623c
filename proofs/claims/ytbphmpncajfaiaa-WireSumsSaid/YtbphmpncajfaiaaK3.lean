/- slips: what WireTurns says: a box with one byte changed is none. -/
import Derived.Test.YtbphmpncajfaiaaK1
import Derived.Test.YtbphmpncajfaiaaK2
import Derived.Test.YtbphmpncajfaiaaM3

namespace Go.Proofs.Ytbphmpncajfaiaa.K
open Go.RowKit Go.Proofs.Ytbphmpncajfaiaa.M Go.Proofs.Ytbphmpncajfaiaa.Py Go.Proofs.YtbphmpncajfaiaaW.PrintWords Go.Proofs.YtbphmpncajfaiaaW.PrintLast Go.Proofs.YtbphmpncajfaiaaW.PrintMore
set_option linter.unusedVariables false
set_option linter.unusedSimpArgs false
set_option maxHeartbeats 8000000 in
set_option maxRecDepth 100000 in
theorem slips_err (size at_ d : Int) (A : Option Addr) (c : Nat) (inn bx : List Int) (w : World) (hI : Kd.C (Kd.int .u8) w A inn.length inn) (hc : inn.length ≤ c) (K1 : Nat)
    (er : Int) (h1 : wire_Box.f K1 size [inn] = some ([], some er)) (hbx : bx = []) :
    Calls Try.prog 31 #[.int .i64 size, .slice A inn.length c, .int .i64 at_, .int .u8 d] w fun e w' => e = .returned (.bool true) ∧ Below w.heap.size w w' := by
  have CI := Aside0.mk hI
  have LI := Aside0.mk hc
  have HB := Aside0.mk (Below.refl w.heap.size w)
  have heq := eql49
  obtain ⟨y, hy⟩ : ∃ y, y = [inn] := ⟨_, rfl⟩
  have A1 := Aside0.mk (show wire_Box.f K1 size y = some (bx, some er) by rw [hy, hbx]; exact h1)
  have Ny := Aside0.mk hy
  have hl : ((bx.length : Int) == 0) = true := by rw [hbx]; rfl
  clear hI hc hy h1 hbx
  go_enter Try.func31, Try.ntmps31
  go_wp2_with (first | ((with_reducible refine gate_callee (f := 16) rfl ?_); (with_reducible refine gate_dst (N := 16) rfl ?_); (try (refine gate_guard (by rfl) ?_; dsimp only)); refine goesL_ (some 16) rfl rfl Try.func16 (by kernel_rfl) rfl #[] rfl (by (try simp only [List.map_toArray, List.map_cons, List.map_nil]); first | done | rfl) ?_; (refine (alive_calls _).mono ?_); rintro e w_al ⟨rfl, hb_⟩; refine ⟨_, rfl, ?_⟩; have HB0_ := HB; replace CI := Aside0.mk (Kd.C_below CI.out hb_); replace HB := Aside0.mk (below_step HB.out hb_); clear hb_; clear HB0_) | ((with_reducible refine gate_dst (N := 21) rfl ?_); (try (refine gate_guard (by rfl) ?_; dsimp only)); refine C_lit (Kd.slice 5 (Kd.int .u8)) 22 ?hg (N := 21) ?hd (xs := [inn]) (inner := [.slice A inn.length c]) ?hr ?hp (by simp) ?_; (case hd => rfl); (case hg => rfl); (case hr => first | (go_simp; done) | (go_simp; rfl)); (case hp => exact (Reps.one ⟨_, _, rfl, LI.out, CI.out⟩ (Reps.none _ _))); intro w_y A_y c_y hc_ l_y hb_; rw [← Ny.out] at hc_ l_y ⊢; replace CI := Aside0.mk (Kd.C_below CI.out hb_); replace HB := Aside0.mk (below_step HB.out hb_); have C_y := Aside0.mk hc_; have L_y := Aside0.mk l_y; clear hc_ hb_ l_y) | ((with_reducible refine gate_callee (f := 26) rfl ?_); (with_reducible refine gate_dst (N := 22) rfl ?_); (try (refine gate_guard (by rfl) ?_; dsimp only)); refine goesL_ (some 22) rfl rfl Try.func26 (by kernel_rfl) rfl #[.int .i64 size, .slice A_y y.length c_y] rfl (by (try simp only [List.map_toArray, List.map_cons, List.map_nil]); first | done | rfl) ?_; (refine (wire_Box.calls K1 size _ _ y bx (some er) _ ?side1 ?side2 A1.out).mono ?_); (case side1 => exact C_y.out); (case side2 => exact L_y.out); rintro e w_bx ⟨v_bx, rfl, ho_, hb_⟩; refine ⟨_, rfl, ?_⟩; have HB0_ := HB; replace CI := Aside0.mk (Kd.C_below CI.out hb_); replace C_y := Aside0.mk (Kd.C_below C_y.out hb_); replace HB := Aside0.mk (below_step HB.out hb_); have H_bx := Aside0.mk (Kd.R_lower ho_ (below_size HB0_.out)); clear ho_ hb_; obtain ⟨A_bx, c_bx, e_bx⟩ := Kd.R_slice H_bx.out; subst e_bx; (try simp only [errW_none, errW_some]); clear HB0_))
  go_ret
  exact ⟨rfl, HB.out⟩
set_option maxHeartbeats 8000000 in
set_option maxRecDepth 100000 in
theorem slips_zero (size at_ d : Int) (A : Option Addr) (c : Nat) (inn bx : List Int) (w : World) (hI : Kd.C (Kd.int .u8) w A inn.length inn) (hc : inn.length ≤ c) (K1 K2 : Nat)
    (h1 : wire_Box.f K1 size [inn] = some (bx, none)) (hlb : bx.length ≤ 65536) (h2 : wire_Unbox.f K2 (List.replicate bx.length 0) = some ([], some 4)) (hd : d = 0) :
    Calls Try.prog 31 #[.int .i64 size, .slice A inn.length c, .int .i64 at_, .int .u8 d] w fun e w' => e = .returned (.bool true) ∧ Below w.heap.size w w' := by
  have CI := Aside0.mk hI
  have LI := Aside0.mk hc
  have HB := Aside0.mk (Below.refl w.heap.size w)
  have heq := eql49
  obtain ⟨y, hy⟩ : ∃ y, y = [inn] := ⟨_, rfl⟩
  have A1 := Aside0.mk (show wire_Box.f K1 size y = some (bx, none) by rw [hy]; exact h1)
  obtain ⟨z, hz⟩ : ∃ z : List Int, z = List.replicate bx.length 0 := ⟨_, rfl⟩
  have A2 := Aside0.mk (show wire_Unbox.f K2 z = some ([], some 4) by rw [hz]; exact h2)
  have Ny := Aside0.mk hy
  have Nz := Aside0.mk hz
  have LB := Aside0.mk hlb
  subst hd
  clear hI hc hy h1 h2 hz hlb
  go_enter Try.func31, Try.ntmps31
  go_wp2_with (first | ((with_reducible refine gate_callee (f := 16) rfl ?_); (with_reducible refine gate_dst (N := 16) rfl ?_); (try (refine gate_guard (by rfl) ?_; dsimp only)); refine goesL_ (some 16) rfl rfl Try.func16 (by kernel_rfl) rfl #[] rfl (by (try simp only [List.map_toArray, List.map_cons, List.map_nil]); first | done | rfl) ?_; (refine (alive_calls _).mono ?_); rintro e w_al ⟨rfl, hb_⟩; refine ⟨_, rfl, ?_⟩; have HB0_ := HB; replace CI := Aside0.mk (Kd.C_below CI.out hb_); replace HB := Aside0.mk (below_step HB.out hb_); clear hb_; clear HB0_) | ((with_reducible refine gate_dst (N := 21) rfl ?_); (try (refine gate_guard (by rfl) ?_; dsimp only)); refine C_lit (Kd.slice 5 (Kd.int .u8)) 22 ?hg (N := 21) ?hd (xs := [inn]) (inner := [.slice A inn.length c]) ?hr ?hp (by simp) ?_; (case hd => rfl); (case hg => rfl); (case hr => first | (go_simp; done) | (go_simp; rfl)); (case hp => exact (Reps.one ⟨_, _, rfl, LI.out, CI.out⟩ (Reps.none _ _))); intro w_y A_y c_y hc_ l_y hb_; rw [← Ny.out] at hc_ l_y ⊢; replace CI := Aside0.mk (Kd.C_below CI.out hb_); replace HB := Aside0.mk (below_step HB.out hb_); have C_y := Aside0.mk hc_; have L_y := Aside0.mk l_y; clear hc_ hb_ l_y) | ((with_reducible refine gate_callee (f := 26) rfl ?_); (with_reducible refine gate_dst (N := 22) rfl ?_); (try (refine gate_guard (by rfl) ?_; dsimp only)); refine goesL_ (some 22) rfl rfl Try.func26 (by kernel_rfl) rfl #[.int .i64 size, .slice A_y y.length c_y] rfl (by (try simp only [List.map_toArray, List.map_cons, List.map_nil]); first | done | rfl) ?_; (refine (wire_Box.calls K1 size _ _ y bx none _ ?side1 ?side2 A1.out).mono ?_); (case side1 => exact C_y.out); (case side2 => exact L_y.out); rintro e w_bx ⟨v_bx, rfl, ho_, hb_⟩; refine ⟨_, rfl, ?_⟩; have HB0_ := HB; replace CI := Aside0.mk (Kd.C_below CI.out hb_); replace C_y := Aside0.mk (Kd.C_below C_y.out hb_); replace HB := Aside0.mk (below_step HB.out hb_); have H_bx := Aside0.mk (Kd.R_lower ho_ (below_size HB0_.out)); clear ho_ hb_; obtain ⟨A_bx, c_bx, e_bx⟩ := Kd.R_slice H_bx.out; subst e_bx; (try simp only [errW_none, errW_some]); clear HB0_) | ((with_reducible refine gate_dst (N := 33) rfl ?_); (try (refine gate_guard (by rfl) ?_; dsimp only)); refine Kd.R_make (w0 := w_bx) (Kd.int .u8) w_bx.heap.size 5 rfl (N := 33) rfl 22 _ _ rfl (bx.length : Int) rfl rfl Try.underlying22 (.int .u8 0) 1 info5 rfl (by decide) (by omega) 0 (ok := fun _ => True) (okp := fun _ => True) rfl (fun _ hk => hk) trivial (by omega) (by have := LB.out; omega) (Below.refl _ _) (Nat.le_refl _) ?_; intro v_z w_z ho_ hb_ hg_ hnew_; simp only [Int.toNat_natCast] at ho_; rw [← Nz.out] at ho_; have HB0_ := HB; replace CI := Aside0.mk (Kd.C_below CI.out hb_); replace H_bx := Aside0.mk (Kd.R_below H_bx.out hb_); replace HB := Aside0.mk (below_step HB.out hb_); have H_z := Aside0.mk (Kd.R_lower ho_ (below_size HB0_.out)); clear ho_ hb_ hg_ hnew_ HB0_; obtain ⟨A_z, c_z, e_z⟩ := Kd.R_slice H_z.out; subst e_z) | ((with_reducible refine gate_callee (f := 29) rfl ?_); (with_reducible refine gate_dst (N := 34) rfl ?_); (try (refine gate_guard (by rfl) ?_; dsimp only)); refine goesL_ (some 34) rfl rfl Try.func29 (by kernel_rfl) rfl #[.slice A_z z.length c_z] rfl (by (try simp only [List.map_toArray, List.map_cons, List.map_nil]); first | done | rfl) ?_; (refine (wire_Unbox.calls K2 _ _ z [] (some 4) _ ?side1 ?side2 A2.out).mono ?_); (case side1 => exact (Kd.R_reads' H_z.out).2.2); (case side2 => exact (Kd.R_reads' H_z.out).2.1); rintro e w_u ⟨v_u, rfl, ho_, hb_⟩; refine ⟨_, rfl, ?_⟩; have HB0_ := HB; replace CI := Aside0.mk (Kd.C_below CI.out hb_); replace H_bx := Aside0.mk (Kd.R_below H_bx.out hb_); replace HB := Aside0.mk (below_step HB.out hb_); obtain ⟨A_u, c_u, e_u⟩ := Kd.R_slice ho_; subst e_u; clear ho_ hb_; (try simp only [errW_none, errW_some]); clear HB0_))
  go_ret
  exact ⟨rfl, HB.out⟩
set_option maxHeartbeats 8000000 in
set_option maxRecDepth 100000 in
theorem slips_turn (size at_ d : Int) (A : Option Addr) (c : Nat) (inn bx : List Int) (w : World) (hI : Kd.C (Kd.int .u8) w A inn.length inn) (hc : inn.length ≤ c) (K1 K2 K3 : Nat)
    (h1 : wire_Box.f K1 size [inn] = some (bx, none)) (hlb : bx.length ≤ 65536) (hlb0 : 0 < bx.length) (h2 : wire_Unbox.f K2 (List.replicate bx.length 0) = some ([], some 4)) (hd : d ≠ 0) (i : Nat) (hi : i < bx.length) (hat : wrap64 ((IntKind.u64.wrap at_).tmod (bx.length : Int)) = i) (h3 : wire_Unbox.f K3 (bx.set i (Go.bits .xor .u8 (rd bx i) d)) = some ([], some 4)) :
    Calls Try.prog 31 #[.int .i64 size, .slice A inn.length c, .int .i64 at_, .int .u8 d] w fun e w' => e = .returned (.bool true) ∧ Below w.heap.size w w' := by
  have CI := Aside0.mk hI
  have LI := Aside0.mk hc
  have HB := Aside0.mk (Below.refl w.heap.size w)
  have heq := eql49
  obtain ⟨y, hy⟩ : ∃ y, y = [inn] := ⟨_, rfl⟩
  have A1 := Aside0.mk (show wire_Box.f K1 size y = some (bx, none) by rw [hy]; exact h1)
  obtain ⟨z, hz⟩ : ∃ z : List Int, z = List.replicate bx.length 0 := ⟨_, rfl⟩
  have A2 := Aside0.mk (show wire_Unbox.f K2 z = some ([], some 4) by rw [hz]; exact h2)
  have A3 := Aside0.mk h3
  have Ny := Aside0.mk hy
  have Nz := Aside0.mk hz
  have LB := Aside0.mk hlb
  have hd0 : (d == 0) = false := beq_eq_false_iff_ne.2 hd
  clear hI hc hy h1 h2 hz hlb h3 hd
  have HI := Aside0.mk hi
  have HAT := Aside0.mk hat
  clear hi hat
  go_enter Try.func31, Try.ntmps31
  go_upto_region 9 with (first | ((with_reducible refine gate_callee (f := 16) rfl ?_); (with_reducible refine gate_dst (N := 16) rfl ?_); (try (refine gate_guard (by rfl) ?_; dsimp only)); refine goesL_ (some 16) rfl rfl Try.func16 (by kernel_rfl) rfl #[] rfl (by (try simp only [List.map_toArray, List.map_cons, List.map_nil]); first | done | rfl) ?_; (refine (alive_calls _).mono ?_); rintro e w_al ⟨rfl, hb_⟩; refine ⟨_, rfl, ?_⟩; have HB0_ := HB; replace CI := Aside0.mk (Kd.C_below CI.out hb_); replace HB := Aside0.mk (below_step HB.out hb_); clear hb_; clear HB0_) | ((with_reducible refine gate_dst (N := 21) rfl ?_); (try (refine gate_guard (by rfl) ?_; dsimp only)); refine C_lit (Kd.slice 5 (Kd.int .u8)) 22 ?hg (N := 21) ?hd (xs := [inn]) (inner := [.slice A inn.length c]) ?hr ?hp (by simp) ?_; (case hd => rfl); (case hg => rfl); (case hr => first | (go_simp; done) | (go_simp; rfl)); (case hp => exact (Reps.one ⟨_, _, rfl, LI.out, CI.out⟩ (Reps.none _ _))); intro w_y A_y c_y hc_ l_y hb_; rw [← Ny.out] at hc_ l_y ⊢; replace CI := Aside0.mk (Kd.C_below CI.out hb_); replace HB := Aside0.mk (below_step HB.out hb_); have C_y := Aside0.mk hc_; have L_y := Aside0.mk l_y; clear hc_ hb_ l_y) | ((with_reducible refine gate_callee (f := 26) rfl ?_); (with_reducible refine gate_dst (N := 22) rfl ?_); (try (refine gate_guard (by rfl) ?_; dsimp only)); refine goesL_ (some 22) rfl rfl Try.func26 (by kernel_rfl) rfl #[.int .i64 size, .slice A_y y.length c_y] rfl (by (try simp only [List.map_toArray, List.map_cons, List.map_nil]); first | done | rfl) ?_; (refine (wire_Box.calls K1 size _ _ y bx none _ ?side1 ?side2 A1.out).mono ?_); (case side1 => exact C_y.out); (case side2 => exact L_y.out); rintro e w_bx ⟨v_bx, rfl, ho_, hb_⟩; refine ⟨_, rfl, ?_⟩; have HB0_ := HB; replace CI := Aside0.mk (Kd.C_below CI.out hb_); replace C_y := Aside0.mk (Kd.C_below C_y.out hb_); replace HB := Aside0.mk (below_step HB.out hb_); have H_bx := Aside0.mk (Kd.R_lower ho_ (below_size HB0_.out)); clear ho_ hb_; obtain ⟨A_bx, c_bx, e_bx⟩ := Kd.R_slice H_bx.out; subst e_bx; (try simp only [errW_none, errW_some]); clear HB0_) | ((with_reducible refine gate_dst (N := 33) rfl ?_); (try (refine gate_guard (by rfl) ?_; dsimp only)); refine Kd.R_make (w0 := w_bx) (Kd.int .u8) w_bx.heap.size 5 rfl (N := 33) rfl 22 _ _ rfl (bx.length : Int) rfl rfl Try.underlying22 (.int .u8 0) 1 info5 rfl (by decide) (by omega) 0 (ok := fun _ => True) (okp := fun _ => True) rfl (fun _ hk => hk) trivial (by omega) (by have := LB.out; omega) (Below.refl _ _) (Nat.le_refl _) ?_; intro v_z w_z ho_ hb_ hg_ hnew_; simp only [Int.toNat_natCast] at ho_; rw [← Nz.out] at ho_; have HB0_ := HB; replace CI := Aside0.mk (Kd.C_below CI.out hb_); replace H_bx := Aside0.mk (Kd.R_below H_bx.out hb_); replace HB := Aside0.mk (below_step HB.out hb_); have H_z := Aside0.mk (Kd.R_lower ho_ (below_size HB0_.out)); clear ho_ hb_ hg_ hnew_ HB0_; obtain ⟨A_z, c_z, e_z⟩ := Kd.R_slice H_z.out; subst e_z) | ((with_reducible refine gate_callee (f := 29) rfl ?_); (with_reducible refine gate_dst (N := 34) rfl ?_); (try (refine gate_guard (by rfl) ?_; dsimp only)); refine goesL_ (some 34) rfl rfl Try.func29 (by kernel_rfl) rfl #[.slice A_z z.length c_z] rfl (by (try simp only [List.map_toArray, List.map_cons, List.map_nil]); first | done | rfl) ?_; (refine (wire_Unbox.calls K2 _ _ z [] (some 4) _ ?side1 ?side2 A2.out).mono ?_); (case side1 => exact (Kd.R_reads' H_z.out).2.2); (case side2 => exact (Kd.R_reads' H_z.out).2.1); rintro e w_u ⟨v_u, rfl, ho_, hb_⟩; refine ⟨_, rfl, ?_⟩; have HB0_ := HB; replace CI := Aside0.mk (Kd.C_below CI.out hb_); replace H_bx := Aside0.mk (Kd.R_below H_bx.out hb_); replace HB := Aside0.mk (below_step HB.out hb_); obtain ⟨A_u, c_u, e_u⟩ := Kd.R_slice ho_; subst e_u; clear ho_ hb_; (try simp only [errW_none, errW_some]); clear HB0_))
  have hlb0' : ((bx.length : Int) == 0) = false := beq_eq_false_iff_ne.2 (by omega)
  have LBB : (bx.length : Int) ≤ 65536 := by have := LB.out; omega
  go_upto_region 10 with (fail)
  rw [HAT.out]
  obtain ⟨g, hA, hgb, hgl, _⟩ := R_form H_bx.out hlb0
  subst hA
  have hcell := Kd.R_cell 0 H_bx.out (i : Int) (by omega) (by have := HI.out; omega)
  have hc1 : w_u.cell? ⟨g, i, none⟩ = some (.int .u8 (rd bx i)) := hcell.1
  have hf1 : w_u.frozen? ⟨g, i, none⟩ = false := hcell.2
  have hi0 : 0 ≤ (i : Int) := by omega
  have hi1 : (i : Int) < bx.length := by have := HI.out; omega
  have hi2 : i < bx.length := HI.out
  clear hcell
  go_upto_region 11 with (fail)
  have H3 := R_put' H_bx.out i (Go.bits .xor .u8 (rd bx i) d)
  have HB3 := Aside0.mk (Below.setCell (p := ⟨g, i, none⟩) HB.out hgb (.int .u8 (Go.bits .xor .u8 (rd bx i) d)))
  obtain ⟨b3, hb3⟩ : ∃ b3, b3 = bx.set i (Go.bits .xor .u8 (rd bx i) d) := ⟨_, rfl⟩
  have hL : b3.length = bx.length := by rw [hb3, List.length_set]
  replace H3 : (Kd.int .u8).R 5 (w_u.setCell ⟨g, i, none⟩ (.int .u8 (Go.bits .xor .u8 (rd bx i) d))) w.heap.size (fun _ => True) (.slice (some ⟨g, 0, none⟩) b3.length c_bx) b3 := by rw [hL, hb3]; exact H3
  replace A3 : wire_Unbox.f K3 b3 = some ([], some 4) := by rw [hb3]; exact A3.out
  have hcall := wire_Unbox.calls K3 (some ⟨g, 0, none⟩) c_bx b3 [] (some 4) (w_u.setCell ⟨g, i, none⟩ (.int .u8 (Go.bits .xor .u8 (rd bx i) d))) (Kd.R_reads' H3).2.2 (Kd.R_reads' H3).2.1 A3
  rw [hL] at hcall
  have HC := Aside0.mk hcall
  clear hcall H3 A3 hb3 hL hc1 hf1 H_bx
  go_wp2_with ((with_reducible refine gate_callee (f := 29) rfl ?_); refine goesL_ (some 58) rfl rfl Try.func29 (by kernel_rfl) rfl #[.slice (some ⟨g, 0, none⟩) bx.length c_bx] rfl (by (try simp only [List.map_toArray, List.map_cons, List.map_nil]); first | done | rfl) ?_; refine HC.out.mono ?_; rintro e w_3 ⟨v_3, rfl, ho_, hb_⟩; refine ⟨_, rfl, ?_⟩; have HB4 := Aside0.mk (below_step HB3.out hb_); obtain ⟨A_3, c_3, e_3⟩ := Kd.R_slice ho_; subst e_3; clear ho_ hb_; (try simp only [errW_none, errW_some]))
  go_ret
  exact ⟨rfl, HB4.out⟩
end Go.Proofs.Ytbphmpncajfaiaa.K
