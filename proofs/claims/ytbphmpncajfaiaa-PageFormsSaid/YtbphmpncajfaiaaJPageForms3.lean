/- Joined: K44, K8, K1, Pyx8, Pyx9, K9 -/
import Derived.Test.YtbphmpncajfaiaaJPageForms2
/- palimpsestref05.Decode (function 38). -/
namespace Go.Proofs.Ytbphmpncajfaiaa.K
open Go.RowKit Go.Proofs.Ytbphmpncajfaiaa.M Go.Proofs.Ytbphmpncajfaiaa.Py Go.Proofs.YtbphmpncajfaiaaW.PrintWords Go.Proofs.YtbphmpncajfaiaaW.PrintLast Go.Proofs.YtbphmpncajfaiaaW.PrintMore
set_option linter.unusedVariables false
set_option linter.unusedSimpArgs false
set_option maxHeartbeats 16000000 in
set_option maxRecDepth 100000 in
theorem rdecode_short (A : Option Addr) (c : Nat) (b : List Int) (ws : World) (h : b.length ≠ 512) :
    Calls Try.prog 38 #[.slice A b.length c] ws fun e w' => e = .returned (.tuple #[.agg (pg none61), .bool false]) ∧ Below ws.heap.size ws w' := by
  have HB := Aside0.mk (Below.refl ws.heap.size ws)
  have c1 : ((b.length : Int) != 512) = true := by simp; omega
  obtain ⟨nn, hz⟩ : ∃ z : List Int, z = none61 := ⟨_, rfl⟩
  have NN := Aside0.mk hz
  have LN := Aside0.mk (show nn.length = 61 by rw [hz]; exact none61_len)
  rw [← hz]
  clear hz h
  go_enter Try.func38, Try.ntmps38
  go_wp2_with (first | ((with_reducible refine gate_dst (N := 2) rfl ?_); (try (refine gate_guard (by rfl) ?_; dsimp only)); refine page_alloc rfl rfl ?_; intro g_t w_t hg_ hp_ hb_; have G_t := Aside0.mk (show ws.heap.size ≤ g_t by rw [hg_]; exact below_size HB.out); have P_t := Aside0.mk hp_; replace HB := Aside0.mk (below_step HB.out hb_); clear hg_ hp_ hb_) | ((with_reducible refine gate_dst (N := 17) rfl ?_); (try (refine gate_guard (by rfl) ?_; dsimp only)); refine page_blank rfl rfl nn (NN.out) ?_) | ((with_reducible refine gate_op' (.store 65 (.tmp 2) (.tmp 17)) rfl ?_); (try (refine gate_guard (by rfl) ?_; dsimp only)); refine page_store rfl rfl (.tmp 2) (.tmp 17) rfl g_t _ nn rfl rfl P_t.out (LN.out) ?_; intro w_s1 hp_ hg_; replace P_t := Aside0.mk hp_; replace HB := Aside0.mk (page_below HB.out hg_ G_t.out); clear hp_ hg_))
  refine bodyPost_ret (results_page (p := 2) (q := 3) rfl _ _ g_t nn _ rfl rfl P_t.out) rfl ?_
  exact ⟨rfl, HB.out⟩
theorem zeros_iff {b : List Int} (hl : b.length = 512) : (∀ i : Nat, i < 512 → rd b (i : Int) = 0) ↔ b = List.replicate 512 0 := by
  constructor
  · intro h
    apply List.eq_replicate_iff.2 ⟨hl, fun x hx => ?_⟩
    obtain ⟨i, hi, rfl⟩ := List.getElem_of_mem hx
    rw [el_rd' hi]
    exact h i (by omega)
  · rintro rfl i _
    exact rd_rep 512 i
set_option maxHeartbeats 16000000 in
set_option maxRecDepth 100000 in
theorem rdecode_calls (A : Option Addr) (c : Nat) (b : List Int) (ws : World) (hC : Kd.C (Kd.int .u8) ws A b.length b) (hc : b.length ≤ c) (hb : Bytes b) :
    Calls Try.prog 38 #[.slice A b.length c] ws fun e w' => e = .returned (.tuple #[.agg (pg (rdecodeOf b).1), .bool (rdecodeOf b).2]) ∧ Below ws.heap.size ws w' := by
  by_cases hl : b.length = 512
  case neg =>
    have e : rdecodeOf b = (none61, false) := by unfold rdecodeOf; rw [if_pos hl]
    rw [e]
    exact rdecode_short A c b ws hl
  have HC := Aside0.mk hC
  have LC := Aside0.mk hc
  have BB := Aside0.mk hb
  have HL := Aside0.mk hl
  have HB := Aside0.mk (Below.refl ws.heap.size ws)
  have c1 : ((b.length : Int) != 512) = false := by simp; omega
  obtain ⟨nn, hz⟩ : ∃ z : List Int, z = none61 := ⟨_, rfl⟩
  have NN := Aside0.mk hz
  have LN := Aside0.mk (show nn.length = 61 by rw [hz]; exact none61_len)
  clear hC hc hb hz hl
  go_enter Try.func38, Try.ntmps38
  go_wp2_with (first | ((with_reducible refine gate_dst (N := 2) rfl ?_); (try (refine gate_guard (by rfl) ?_; dsimp only)); refine page_alloc rfl rfl ?_; intro g_t w_t hg_ hp_ hb_; have G_t := Aside0.mk (show ws.heap.size ≤ g_t by rw [hg_]; exact below_size HB.out); have P_t := Aside0.mk hp_; replace HB := Aside0.mk (below_step HB.out hb_); clear hg_ hp_ hb_))
  go_loopg [4, 5] 512 (fun kq v4 v5 w' => ∃ (x : Nat) (z : Bool), v4 = .bool z ∧ v5 = .int .i64 (x : Int) ∧ Aside0 (x ≤ 512 ∧ kq + x = 512) ∧ Aside0 (z = true ↔ ∀ i : Nat, i < x → rd b (i : Int) = 0) ∧ Aside0 (Page w' g_t (List.replicate 61 0)) ∧ Aside0 (Below ws.heap.size ws w'))
  case atStart => exact ⟨0, true, rfl, rfl, ⟨by omega⟩, ⟨⟨fun _ i hi => by omega, fun _ => rfl⟩⟩, P_t, HB⟩
  case round =>
    clear P_t HB
    obtain ⟨x, z, rfl, rfl, HX, HZ, P_t, HB⟩ := hrel
    obtain ⟨hx1, hxk⟩ := HX.out
    clear HX
    obtain ⟨ad, hA, _⟩ := Kd.at_int HC.out 0 (by omega) (by have := HL.out; omega)
    subst hA
    by_cases hlt : (x : Int) < 512
    · obtain ⟨k1, rfl⟩ : ∃ k1, gk = k1 + 1 := ⟨gk - 1, by omega⟩
      have HXK := Aside0.mk hxk
      have c2 : decide ((x : Int) < 512) = true := decide_eq_true hlt
      clear hxk
      cases z with
      | false =>
        go_wp2
        go_roundg k1
        case measure => omega
        case rel => exact ⟨x + 1, false, rfl, by simp, ⟨by omega, by have := HXK.out; omega⟩, ⟨⟨fun h => (nomatch h), fun h => HZ.out.2 (fun i hi => h i (by omega))⟩⟩, P_t, HB⟩
      | true =>
        obtain ⟨ad2, hA2, hcl0⟩ := Kd.at_int HC.out (x : Int) (by omega) (by have := HL.out; omega)
        injection hA2 with hA2
        subst hA2
        have hcl := (HB.out.cell (World.block_lt_of_cell? _ _ hcl0)).trans hcl0
        rw [Int.toNat_natCast] at hcl
        have q0 : 0 ≤ (x : Int) := by omega
        have q1 : (x : Int) < (b.length : Int) := by have := HL.out; omega
        clear hcl0
        by_cases hz : rd b (x : Int) = 0
        · have c3 : (rd b (x : Int) == 0) = true := by simp [hz]
          have HZZ := Aside0.mk hz
          clear hz
          go_wp2
          go_roundg k1
          case measure => omega
          case rel =>
            refine ⟨x + 1, true, rfl, by simp, ⟨by omega, by have := HXK.out; omega⟩, ⟨⟨fun _ i hi => ?_, fun _ => rfl⟩⟩, P_t, HB⟩
            by_cases h : i = x
            · subst h; exact HZZ.out
            · exact HZ.out.1 (by trivial) i (by omega)
        · have c3 : (rd b (x : Int) == 0) = false := by simp [hz]
          have HZZ := Aside0.mk hz
          clear hz
          go_wp2
          go_roundg k1
          case measure => omega
          case rel => exact ⟨x + 1, false, rfl, by simp, ⟨by omega, by have := HXK.out; omega⟩, ⟨⟨fun h => (nomatch h), fun h => absurd (h x (by omega)) HZZ.out⟩⟩, P_t, HB⟩
    · have c2 : decide ((x : Int) < 512) = false := decide_eq_false hlt
      obtain rfl : x = 512 := by omega
      clear hxk hlt
      cases z with
      | true =>
        have R2 := Aside0.mk (show rdecodeOf b = (none61, true) by
          unfold rdecodeOf
          rw [if_neg (by have := HL.out; omega), if_pos ((zeros_iff HL.out).1 (HZ.out.1 (by trivial)))])
        go_wp2_with (first | ((with_reducible refine gate_dst (N := 31) rfl ?_); (try (refine gate_guard (by rfl) ?_; dsimp only)); refine page_blank rfl rfl nn (NN.out) ?_) | ((with_reducible refine gate_op' (.store 65 (.tmp 2) (.tmp 31)) rfl ?_); (try (refine gate_guard (by rfl) ?_; dsimp only)); refine page_store rfl rfl (.tmp 2) (.tmp 31) rfl g_t _ nn rfl rfl P_t.out (LN.out) ?_; intro w_s1 hp_ hg_; replace P_t := Aside0.mk hp_; replace HB := Aside0.mk (page_below HB.out hg_ G_t.out); clear hp_ hg_))
        refine bodyPost_ret (results_page (p := 2) (q := 3) rfl _ _ g_t nn _ rfl rfl P_t.out) rfl ?_
        exact ⟨by rw [R2.out, NN.out]; rfl, HB.out⟩
      | false =>
        have hnz : b ≠ List.replicate 512 0 := fun h => by
          have := HZ.out.2 ((zeros_iff HL.out).2 h)
          cases this
        obtain ⟨K1, hk1⟩ := ref_unbox BB.out (by have := HL.out; omega)
        have hk1 := hk1 K1 (Nat.le_refl _)
        dsimp only at hk1
        obtain ⟨inn, hin⟩ : ∃ i, i = (unboxOf b).1 := ⟨_, rfl⟩
        by_cases hu : (unboxOf b).2 ≠ none
        · have R2 := Aside0.mk (show rdecodeOf b = (none61, false) by
            unfold rdecodeOf
            rw [if_neg (by have := HL.out; omega), if_neg hnz, if_pos hu])
          have A1 := Aside0.mk (show palimpsestref02_Unbox.f K1 b = some (inn, false) by
            rw [hk1, hin]
            cases h : (unboxOf b).2 with
            | none => exact absurd h hu
            | some _ => rfl)
          clear hnz hk1 hin hu
          go_wp2_with (first | ((with_reducible refine gate_callee (f := 30) rfl ?_); (with_reducible refine gate_dst (N := 34) rfl ?_); (try (refine gate_guard (by rfl) ?_; dsimp only)); refine goesL_ (some 34) rfl rfl Try.func30 (by kernel_rfl) rfl #[.slice (some ad) b.length c] rfl (by (try simp only [List.map_toArray, List.map_cons, List.map_nil]); first | done | rfl) ?_; (refine (palimpsestref02_Unbox.calls K1 _ _ b inn false _ ?side1 ?side2 A1.out).mono ?_); (case side1 => exact (Kd.C_below HC.out HB.out)); (case side2 => exact LC.out); rintro e w_u ⟨v_u, rfl, ho_, hb_⟩; refine ⟨_, rfl, ?_⟩; have HB0_ := HB; replace P_t := Aside0.mk (P_t.out.below hb_); replace HB := Aside0.mk (below_step HB.out hb_); have H_u := Aside0.mk (Kd.R_lower ho_ (below_size HB0_.out)); clear ho_ hb_; obtain ⟨A_u, c_u, e_u⟩ := Kd.R_slice H_u.out; subst e_u; clear HB0_) | ((with_reducible refine gate_dst (N := 39) rfl ?_); (try (refine gate_guard (by rfl) ?_; dsimp only)); refine page_blank rfl rfl nn (NN.out) ?_) | ((with_reducible refine gate_op' (.store 65 (.tmp 2) (.tmp 39)) rfl ?_); (try (refine gate_guard (by rfl) ?_; dsimp only)); refine page_store rfl rfl (.tmp 2) (.tmp 39) rfl g_t _ nn rfl rfl P_t.out (LN.out) ?_; intro w_s1 hp_ hg_; replace H_u := Aside0.mk (row_far P_t.out H_u.out (by decide) hg_); replace P_t := Aside0.mk hp_; replace HB := Aside0.mk (page_below HB.out hg_ G_t.out); clear hp_ hg_))
          refine bodyPost_ret (results_page (p := 2) (q := 3) rfl _ _ g_t nn _ rfl rfl P_t.out) rfl ?_
          exact ⟨by rw [R2.out, NN.out]; rfl, HB.out⟩
        · have hu0 : (unboxOf b).2 = none := by simpa using hu
          have A1 := Aside0.mk (show palimpsestref02_Unbox.f K1 b = some (inn, true) by rw [hk1, hin, hu0]; rfl)
          have BI := Aside0.mk (show Bytes inn by rw [hin]; exact unbox_bytes BB.out)
          have LI := Aside0.mk (show inn.length ≤ 140737488300000 by
            rw [hin]
            unfold unboxOf
            repeat' split
            all_goals first | exact Nat.zero_le _ | (rw [List.length_drop, List.length_take]; have := HL.out; omega))
          obtain ⟨lsn, sz, htk⟩ : ∃ a s, rtakeOf inn = (a, s) := ⟨_, _, rfl⟩
          have TK := Aside0.mk htk
          by_cases hf : sz = 0 ∨ (inn.length : Int) ≠ sz + 480
          · have R2 := Aside0.mk (show rdecodeOf b = (none61, false) by
              unfold rdecodeOf
              rw [if_neg (by have := HL.out; omega), if_neg hnz, if_neg hu, ← hin, htk, if_pos hf])
            clear hnz hk1 hu hu0 hin htk
            by_cases h0 : sz = 0
            · have c5 : (sz == 0) = true := by simp [h0]
              clear hf h0
              go_wp2_with (first | ((with_reducible refine gate_callee (f := 30) rfl ?_); (with_reducible refine gate_dst (N := 34) rfl ?_); (try (refine gate_guard (by rfl) ?_; dsimp only)); refine goesL_ (some 34) rfl rfl Try.func30 (by kernel_rfl) rfl #[.slice (some ad) b.length c] rfl (by (try simp only [List.map_toArray, List.map_cons, List.map_nil]); first | done | rfl) ?_; (refine (palimpsestref02_Unbox.calls K1 _ _ b inn true _ ?side1 ?side2 A1.out).mono ?_); (case side1 => exact (Kd.C_below HC.out HB.out)); (case side2 => exact LC.out); rintro e w_u ⟨v_u, rfl, ho_, hb_⟩; refine ⟨_, rfl, ?_⟩; have HB0_ := HB; replace P_t := Aside0.mk (P_t.out.below hb_); replace HB := Aside0.mk (below_step HB.out hb_); have H_u := Aside0.mk (Kd.R_lower ho_ (below_size HB0_.out)); clear ho_ hb_; obtain ⟨A_u, c_u, e_u⟩ := Kd.R_slice H_u.out; subst e_u; clear HB0_) | ((with_reducible refine gate_callee (f := 55) rfl ?_); (with_reducible refine gate_dst (N := 42) rfl ?_); (try (refine gate_guard (by rfl) ?_; dsimp only)); refine goesL_ (some 42) rfl rfl Try.func55 (by kernel_rfl) rfl #[.slice A_u inn.length c_u] rfl (by (try simp only [List.map_toArray, List.map_cons, List.map_nil]); first | done | rfl) ?_; (refine (rtake_calls A_u c_u inn _ ?side1 ?side2 BI.out LI.out).mono ?_); (case side1 => exact (Kd.R_reads' H_u.out).2.2); (case side2 => exact (Kd.R_reads' H_u.out).2.1); rintro e w_tk ⟨rfl, hb_⟩; refine ⟨_, rfl, ?_⟩; have HB0_ := HB; replace P_t := Aside0.mk (P_t.out.below hb_); replace H_u := Aside0.mk (Kd.R_below H_u.out hb_); replace HB := Aside0.mk (below_step HB.out hb_); rw [TK.out]; clear hb_; clear HB0_) | ((with_reducible refine gate_dst (N := 54) rfl ?_); (try (refine gate_guard (by rfl) ?_; dsimp only)); refine page_blank rfl rfl nn (NN.out) ?_) | ((with_reducible refine gate_op' (.store 65 (.tmp 2) (.tmp 54)) rfl ?_); (try (refine gate_guard (by rfl) ?_; dsimp only)); refine page_store rfl rfl (.tmp 2) (.tmp 54) rfl g_t _ nn rfl rfl P_t.out (LN.out) ?_; intro w_s1 hp_ hg_; replace H_u := Aside0.mk (row_far P_t.out H_u.out (by decide) hg_); replace P_t := Aside0.mk hp_; replace HB := Aside0.mk (page_below HB.out hg_ G_t.out); clear hp_ hg_))
              refine bodyPost_ret (results_page (p := 2) (q := 3) rfl _ _ g_t nn _ rfl rfl P_t.out) rfl ?_
              exact ⟨by rw [R2.out, NN.out]; rfl, HB.out⟩
            · have c5 : (sz == 0) = false := by simp [h0]
              have hne := hf.resolve_left h0
              have htr := rtake_eq BI.out
              have hsz : 0 ≤ sz ∧ sz ≤ 10 := by
                rw [TK.out] at htr
                by_cases h : (takeOf inn).2 = 0
                · rw [if_pos h] at htr
                  injection htr with _ h2
                  omega
                · rw [if_neg h] at htr
                  obtain ⟨n, r, hn, _, ht⟩ := take_inv BI.out h
                  rw [ht] at htr
                  injection htr with _ h2
                  have := num_le hn
                  omega
              have e6 : wrap64 (sz + 480) = sz + 480 := by unfold wrap64; omega
              have c6 : ((inn.length : Int) != sz + 480) = true := by simp [hne]
              clear htr hsz hne
              clear hf h0
              go_wp2_with (first | ((with_reducible refine gate_callee (f := 30) rfl ?_); (with_reducible refine gate_dst (N := 34) rfl ?_); (try (refine gate_guard (by rfl) ?_; dsimp only)); refine goesL_ (some 34) rfl rfl Try.func30 (by kernel_rfl) rfl #[.slice (some ad) b.length c] rfl (by (try simp only [List.map_toArray, List.map_cons, List.map_nil]); first | done | rfl) ?_; (refine (palimpsestref02_Unbox.calls K1 _ _ b inn true _ ?side1 ?side2 A1.out).mono ?_); (case side1 => exact (Kd.C_below HC.out HB.out)); (case side2 => exact LC.out); rintro e w_u ⟨v_u, rfl, ho_, hb_⟩; refine ⟨_, rfl, ?_⟩; have HB0_ := HB; replace P_t := Aside0.mk (P_t.out.below hb_); replace HB := Aside0.mk (below_step HB.out hb_); have H_u := Aside0.mk (Kd.R_lower ho_ (below_size HB0_.out)); clear ho_ hb_; obtain ⟨A_u, c_u, e_u⟩ := Kd.R_slice H_u.out; subst e_u; clear HB0_) | ((with_reducible refine gate_callee (f := 55) rfl ?_); (with_reducible refine gate_dst (N := 42) rfl ?_); (try (refine gate_guard (by rfl) ?_; dsimp only)); refine goesL_ (some 42) rfl rfl Try.func55 (by kernel_rfl) rfl #[.slice A_u inn.length c_u] rfl (by (try simp only [List.map_toArray, List.map_cons, List.map_nil]); first | done | rfl) ?_; (refine (rtake_calls A_u c_u inn _ ?side1 ?side2 BI.out LI.out).mono ?_); (case side1 => exact (Kd.R_reads' H_u.out).2.2); (case side2 => exact (Kd.R_reads' H_u.out).2.1); rintro e w_tk ⟨rfl, hb_⟩; refine ⟨_, rfl, ?_⟩; have HB0_ := HB; replace P_t := Aside0.mk (P_t.out.below hb_); replace H_u := Aside0.mk (Kd.R_below H_u.out hb_); replace HB := Aside0.mk (below_step HB.out hb_); rw [TK.out]; clear hb_; clear HB0_) | ((with_reducible refine gate_dst (N := 54) rfl ?_); (try (refine gate_guard (by rfl) ?_; dsimp only)); refine page_blank rfl rfl nn (NN.out) ?_) | ((with_reducible refine gate_op' (.store 65 (.tmp 2) (.tmp 54)) rfl ?_); (try (refine gate_guard (by rfl) ?_; dsimp only)); refine page_store rfl rfl (.tmp 2) (.tmp 54) rfl g_t _ nn rfl rfl P_t.out (LN.out) ?_; intro w_s1 hp_ hg_; replace H_u := Aside0.mk (row_far P_t.out H_u.out (by decide) hg_); replace P_t := Aside0.mk hp_; replace HB := Aside0.mk (page_below HB.out hg_ G_t.out); clear hp_ hg_))
              refine bodyPost_ret (results_page (p := 2) (q := 3) rfl _ _ g_t nn _ rfl rfl P_t.out) rfl ?_
              exact ⟨by rw [R2.out, NN.out]; rfl, HB.out⟩
          · have h0 : sz ≠ 0 := fun h => hf (.inl h)
            have h1 : (inn.length : Int) = sz + 480 := Classical.byContradiction fun h => hf (.inr h)
            have htk2 : rtakeOf (unboxOf b).1 = (lsn, sz) := by rw [← hin]; exact htk
            obtain ⟨n, r, hn, hrb, hr, hx, ht1, ht2, hdr, henc⟩ := rdecode_back BB.out HL.out hu0 (by rw [htk2]; exact h0) (by rw [htk2, ← hin]; exact h1)
            rw [htk2] at ht1
            injection ht1 with e1 e2
            subst e1
            have R2 := Aside0.mk (show rdecodeOf b = (lsn :: cellsOf r, true) by
              unfold rdecodeOf
              rw [if_neg (by have := HL.out; omega), if_neg hnz, if_neg hu, htk2, ← hin, if_neg hf]
              simp only
              rw [e2, Int.toNat_natCast, hin, hdr])
            rw [← hin] at hx hdr
            obtain ⟨sn, hsn⟩ : ∃ s, s = (num lsn).length := ⟨_, rfl⟩
            rw [← hsn] at e2 hdr
            subst e2
            have hsn10 : sn ≤ 10 := by rw [hsn]; exact num_le hn
            have c5 : ((sn : Int) == 0) = false := by simp; omega
            have c6 : ((inn.length : Int) != (sn : Int) + 480) = false := by simp [h1]
            have e6 : wrap64 ((sn : Int) + 480) = (sn : Int) + 480 := by unfold wrap64; omega
            obtain ⟨z8, hz8⟩ : ∃ z : List Int, z = lsn :: List.replicate 60 0 := ⟨_, rfl⟩
            have N8 := Aside0.mk hz8
            have L8 := Aside0.mk (show z8.length = 61 by rw [hz8]; simp)
            have BR := Aside0.mk hrb
            have LR := Aside0.mk hr
            have HDR := Aside0.mk hdr
            have HEN := Aside0.mk henc
            have HLN := Aside0.mk hn
            have HIL := Aside0.mk h1
            have S10 := Aside0.mk hsn10
            clear hnz hk1 hu hu0 hin htk htk2 hf h0 h1 hn hrb hr hx hdr henc hsn hsn10 hz8
            go_wp2_with (first | ((with_reducible refine gate_callee (f := 30) rfl ?_); (with_reducible refine gate_dst (N := 34) rfl ?_); (try (refine gate_guard (by rfl) ?_; dsimp only)); refine goesL_ (some 34) rfl rfl Try.func30 (by kernel_rfl) rfl #[.slice (some ad) b.length c] rfl (by (try simp only [List.map_toArray, List.map_cons, List.map_nil]); first | done | rfl) ?_; (refine (palimpsestref02_Unbox.calls K1 _ _ b inn true _ ?side1 ?side2 A1.out).mono ?_); (case side1 => exact (Kd.C_below HC.out HB.out)); (case side2 => exact LC.out); rintro e w_u ⟨v_u, rfl, ho_, hb_⟩; refine ⟨_, rfl, ?_⟩; have HB0_ := HB; replace P_t := Aside0.mk (P_t.out.below hb_); replace HB := Aside0.mk (below_step HB.out hb_); have H_u := Aside0.mk (Kd.R_lower ho_ (below_size HB0_.out)); clear ho_ hb_; obtain ⟨A_u, c_u, e_u⟩ := Kd.R_slice H_u.out; subst e_u; clear HB0_) | ((with_reducible refine gate_callee (f := 55) rfl ?_); (with_reducible refine gate_dst (N := 42) rfl ?_); (try (refine gate_guard (by rfl) ?_; dsimp only)); refine goesL_ (some 42) rfl rfl Try.func55 (by kernel_rfl) rfl #[.slice A_u inn.length c_u] rfl (by (try simp only [List.map_toArray, List.map_cons, List.map_nil]); first | done | rfl) ?_; (refine (rtake_calls A_u c_u inn _ ?side1 ?side2 BI.out LI.out).mono ?_); (case side1 => exact (Kd.R_reads' H_u.out).2.2); (case side2 => exact (Kd.R_reads' H_u.out).2.1); rintro e w_tk ⟨rfl, hb_⟩; refine ⟨_, rfl, ?_⟩; have HB0_ := HB; replace P_t := Aside0.mk (P_t.out.below hb_); replace H_u := Aside0.mk (Kd.R_below H_u.out hb_); replace HB := Aside0.mk (below_step HB.out hb_); rw [TK.out]; clear hb_; clear HB0_) | ((with_reducible refine gate_dst (N := 56) rfl ?_); (try (refine gate_guard (by rfl) ?_; dsimp only)); refine page_build rfl _ (lsn) rfl rfl z8 (N8.out) ?_) | ((with_reducible refine gate_dst (N := 10) rfl ?_); (try (refine gate_guard (by rfl) ?_; dsimp only)); refine page_alloc rfl rfl ?_; intro g_p w_p hg_ hp_ hb_; have G_p := Aside0.mk (show ws.heap.size ≤ g_p by rw [hg_]; exact below_size HB.out); have NE_t_p := Aside0.mk (show g_t < g_p by rw [hg_]; exact P_t.out.lt); replace P_t := Aside0.mk (P_t.out.below hb_); replace H_u := Aside0.mk (Kd.R_below H_u.out hb_); have P_p := Aside0.mk hp_; replace HB := Aside0.mk (below_step HB.out hb_); clear hg_ hp_ hb_) | ((with_reducible refine gate_op' (.store 65 (.tmp 10) (.tmp 56)) rfl ?_); (try (refine gate_guard (by rfl) ?_; dsimp only)); refine page_store rfl rfl (.tmp 10) (.tmp 56) rfl g_p _ z8 rfl rfl P_p.out (L8.out) ?_; intro w_s2 hp_ hg_; replace P_t := Aside0.mk (P_t.out.grown hg_ (fun e => by injection e with e; have := NE_t_p.out; omega)); replace H_u := Aside0.mk (row_far P_p.out H_u.out (by decide) hg_); replace P_p := Aside0.mk hp_; replace HB := Aside0.mk (page_below HB.out hg_ G_p.out); clear hp_ hg_))
            go_loopg [11] 60 (fun kq v11 w' => ∃ x : Int, v11 = .int .i64 x ∧ Aside0 (0 ≤ x ∧ x ≤ 60 ∧ kq + x.toNat = 60) ∧ Aside0 (Page w' g_p (uptoF lsn (fun i => wrap64 (word (segOf r i) 8)) x.toNat)) ∧ Aside0 (Page w' g_t (List.replicate 61 0)) ∧ Aside0 (Kd.R (Kd.int .u8) 5 w' ws.heap.size (fun _ => True) (.slice A_u inn.length c_u) inn) ∧ Aside0 (Below ws.heap.size ws w'))
            case atStart => exact ⟨0, rfl, ⟨by omega⟩, ⟨by rw [show (0 : Int).toNat = 0 from rfl, uptoF_zero, ← N8.out]; exact P_p.out⟩, P_t, H_u, HB⟩
            case round =>
              clear P_p P_t H_u HB
              obtain ⟨x, rfl, HX, P_p, P_t, H_u, HB⟩ := hrel
              obtain ⟨hx0, hx1, hxk⟩ := HX.out
              by_cases hlt : x < 60
              · obtain ⟨k1, rfl⟩ : ∃ k1, gk = k1 + 1 := ⟨gk - 1, by omega⟩
                have HXK := Aside0.mk hxk
                have c7 : decide (x < 60) = true := decide_eq_true hlt
                clear hxk HX
                obtain ⟨seg, hseg⟩ : ∃ s, s = segOf r x.toNat := ⟨_, rfl⟩
                have NSEG := Aside0.mk hseg
                have LSEG := Aside0.mk (show seg.length = 8 by rw [hseg]; exact segOf_len (by have := LR.out; omega))
                have BSEG := Aside0.mk (show Bytes seg by rw [hseg]; exact segOf_bytes BR.out _)
                have RSEG := Aside0.mk (show ∀ k : Nat, k < 8 → seg[k]? = some (rd inn ((sn : Int) + 8 * x + k)) by
                  intro k hk
                  have h1 := HIL.out
                  rw [hseg, segOf, List.getElem?_drop, List.getElem?_take_of_lt (by omega), ← HDR.out, List.getElem?_drop]
                  unfold rd
                  rw [List.getD_eq_getElem?_getD, show ((sn : Int) + 8 * x + k).toNat = sn + (8 * x.toNat + k) by omega, List.getElem?_eq_getElem (by omega)]
                  rfl)
                clear hseg
                obtain ⟨ad2, hA, _⟩ := Kd.at_int (Kd.R_reads' H_u.out).2.2 0 (by omega) (by have := HIL.out; omega)
                subst hA
                go_wp2
                go_loopg [12, 13] 8 (fun kq v12 v13 w' => ∃ k : Nat, v12 = .int .u64 (hval seg k) ∧ v13 = .int .i64 (k : Int) ∧ Aside0 (k ≤ 8 ∧ kq + k = 8) ∧ Aside0 (Below wr.heap.size wr w'))
                case atStart => exact ⟨0, rfl, rfl, ⟨by omega⟩, ⟨Below.refl _ _⟩⟩
                case round =>
                  obtain ⟨k, rfl, rfl, HX, HQ⟩ := hrel
                  obtain ⟨hk8, hkk⟩ := HX.out
                  clear HX
                  by_cases hlt2 : (k : Int) < 8
                  · obtain ⟨k2, rfl⟩ : ∃ k2, gk = k2 + 1 := ⟨gk - 1, by omega⟩
                    have c8 : decide ((k : Int) < 8) = true := decide_eq_true hlt2
                    obtain ⟨m1, hm1⟩ : ∃ m : Int, m = (sn : Int) + 8 * x := ⟨_, rfl⟩
                    obtain ⟨ix, hix⟩ : ∃ m : Int, m = (sn : Int) + 8 * x + k := ⟨_, rfl⟩
                    have hs10 := S10.out
                    have hil := HIL.out
                    have e1 : wrap64 (8 * x) = 8 * x := by unfold wrap64; omega
                    have e2 : wrap64 ((sn : Int) + 8 * x) = m1 := by rw [hm1]; unfold wrap64; omega
                    have e3 : wrap64 (m1 + (k : Int)) = ix := by rw [hm1, hix]; unfold wrap64; omega
                    have i0 : 0 ≤ ix := by omega
                    have i1 : ix < (inn.length : Int) := by omega
                    obtain ⟨ad3, hA3, hcl0⟩ := Kd.at_int (Kd.R_reads' H_u.out).2.2 ix i0 i1
                    injection hA3 with hA3
                    subst hA3
                    have hcl := (HQ.out.cell (World.block_lt_of_cell? _ _ hcl0)).trans hcl0
                    have HS := Aside0.mk (hval_succ seg k (rd inn ix) (by rw [hix]; exact RSEG.out k (by omega)))
                    have HKK := Aside0.mk hkk
                    clear hcl0 hm1 hix hs10 hil hkk
                    go_wp2
                    go_roundg k2
                    case measure => omega
                    case rel => exact ⟨k + 1, by rw [HS.out], by simp, ⟨by omega, by have := HKK.out; omega⟩, HQ⟩
                  · obtain rfl : k = 8 := by omega
                    have c8 : decide (((8 : Nat) : Int) < 8) = false := by decide
                    have P_p' := Aside0.mk (P_p.out.below HQ.out)
                    have P_t' := Aside0.mk (P_t.out.below HQ.out)
                    have H_u' := Aside0.mk (Kd.R_below H_u.out HQ.out)
                    have HB' := Aside0.mk (below_step HB.out HQ.out)
                    clear P_p P_t H_u HB
                    obtain ⟨old, hold⟩ : ∃ y, (uptoF lsn (fun i => wrap64 (word (segOf r i) 8)) x.toNat)[1 + x.toNat]? = some y := ⟨_, List.getElem?_eq_getElem (by rw [uptoF_len]; omega)⟩
                    have hpc := P_p'.out.cell (1 + x.toNat) old hold
                    have hpf := P_p'.out.free (1 + x.toNat)
                    have q0 := eq_true hx0
                    have q1 := eq_true hlt
                    obtain ⟨u, hu⟩ : ∃ u, u = hval seg 8 := ⟨_, rfl⟩
                    have HU := Aside0.mk (show wrap64 u = wrap64 (word (segOf r x.toNat) 8) by rw [hu, ← NSEG.out, hval_word LSEG.out BSEG.out])
                    rw [← hu]
                    clear hold hkk hk8 hlt2 hu
                    go_wp2
                    have hs := P_p'.out.set (1 + x.toNat) (wrap64 u)
                    rw [HU.out, uptoF_step lsn (fun i => wrap64 (word (segOf r i) 8)) x.toNat (by omega), show x.toNat + 1 = (x + 1).toNat by omega, ← HU.out] at hs
                    have hg := Page.far P_t'.out (g' := g_p) (by have := NE_t_p.out; omega) (1 + x.toNat) (.int .i64 (wrap64 u))
                    have hgr := grown_setCell wr g_p (1 + x.toNat) (.int .i64 (wrap64 u))
                    go_roundg k1
                    case measure => omega
                    case rel => exact ⟨x + 1, by simp, ⟨by have := HXK.out; omega⟩, ⟨hs⟩, ⟨hg⟩, ⟨dec_far P_p'.out H_u'.out hgr⟩, ⟨HB'.out.setCell G_p.out _⟩⟩
              · have c7 : decide (x < 60) = false := decide_eq_false hlt
                obtain rfl : x = 60 := by omega
                clear hxk HX hx0 hx1 hlt
                go_wp2
                obtain ⟨pp, hpp⟩ : ∃ p, p = lsn :: cellsOf r := ⟨_, rfl⟩
                have P_q := Aside0.mk (show Page wr g_p pp by
                  have h := P_p.out
                  rw [show (60 : Int).toNat = 60 from rfl, uptoF_full] at h
                  rw [hpp]; exact h)
                have LPP := Aside0.mk (show pp.length = 61 by rw [hpp, List.length_cons, cells_len])
                have IPP := Aside0.mk (show ∀ x ∈ pp, I64 x by
                  intro x hx
                  rw [hpp] at hx
                  rcases List.mem_cons.1 hx with h | h
                  · rw [h]; exact HLN.out
                  · exact cells_i64 r x h)
                have NPP := Aside0.mk (show encodeOf (pp.headD 0) pp.tail = b by rw [hpp]; exact HEN.out)
                have R3 := Aside0.mk (show rdecodeOf b = (pp, true) by rw [R2.out, hpp])
                clear hpp P_p
                have HINJ : ∀ i j : Nat, i < 9 → j < 9 → (if i = 7 then 1000 else if i = 8 then 3 else 83 + i) = (if j = 7 then 1000 else if j = 8 then 3 else 83 + j) → i = j := by
                  intro i j hi hj h
                  (repeat' split at h) <;> omega
                refine region_rel (n := 9) (by kernel_rfl) rfl (RelT g_t pp) (fun _ _ h => RelT.of h) (fun _ _ _ h k => h.trans k) (fun i => if i = 7 then 1000 else if i = 8 then 3 else 83 + i) ?hN HINJ ?hdag (fun i => [i]) ?hmen
                  (fun i T w => match i with
                    | 0 => T[83]? = some (.agg (pg pp))
                    | 1 => T[84]? = some (.agg (pg pp))
                    | 2 => ∃ v, T[85]? = some v ∧ Kd.R (Kd.int .u8) 5 w ws.heap.size (fun _ => True) v b ∧ ∃ l, Page w g_t l
                    | 3 => T[86]? = some (.string (strOfNums b))
                    | 4 => T[87]? = some (.slice (some ad) b.length c)
                    | 5 => T[88]? = some (.string (strOfNums b))
                    | 6 => T[89]? = some (.bool true)
                    | 7 => Page w g_t pp
                    | 8 => T[3]? = some (.bool true)
                    | _ => True) ?hS ?step ?hend
                case hN =>
                  intro i o ho a v hz
                  have hz90 : a.tmps.size = 90 := hz
                  have hi : i < 9 := (Array.getElem?_eq_some_iff.1 ho).1
                  match i, hi, ho with
                  | 0, _, ho => simp only [List.getElem?_toArray, List.getElem?_cons_zero, List.getElem?_cons_succ, Option.some.injEq] at ho; subst ho; rfl
                  | 1, _, ho => simp only [List.getElem?_toArray, List.getElem?_cons_zero, List.getElem?_cons_succ, Option.some.injEq] at ho; subst ho; rfl
                  | 2, _, ho => simp only [List.getElem?_toArray, List.getElem?_cons_zero, List.getElem?_cons_succ, Option.some.injEq] at ho; subst ho; rfl
                  | 3, _, ho => simp only [List.getElem?_toArray, List.getElem?_cons_zero, List.getElem?_cons_succ, Option.some.injEq] at ho; subst ho; rfl
                  | 4, _, ho => simp only [List.getElem?_toArray, List.getElem?_cons_zero, List.getElem?_cons_succ, Option.some.injEq] at ho; subst ho; rfl
                  | 5, _, ho => simp only [List.getElem?_toArray, List.getElem?_cons_zero, List.getElem?_cons_succ, Option.some.injEq] at ho; subst ho; rfl
                  | 6, _, ho => simp only [List.getElem?_toArray, List.getElem?_cons_zero, List.getElem?_cons_succ, Option.some.injEq] at ho; subst ho; rfl
                  | 7, _, ho =>
                    simp only [List.getElem?_toArray, List.getElem?_cons_zero, List.getElem?_cons_succ, Option.some.injEq] at ho; subst ho
                    show a = { a with tmps := a.tmps.setIfInBounds 1000 v }
                    rw [Array.setIfInBounds_eq_of_size_le (by rw [hz90]; decide)]
                  | 8, _, ho => simp only [List.getElem?_toArray, List.getElem?_cons_zero, List.getElem?_cons_succ, Option.some.injEq] at ho; subst ho; rfl
                case hdag =>
                  intro i o ho
                  have hi : i < 9 := (Array.getElem?_eq_some_iff.1 ho).1
                  match i, hi, ho with
                  | 0, _, ho => simp only [List.getElem?_toArray, List.getElem?_cons_zero, List.getElem?_cons_succ, Option.some.injEq] at ho; subst ho; decide
                  | 1, _, ho => simp only [List.getElem?_toArray, List.getElem?_cons_zero, List.getElem?_cons_succ, Option.some.injEq] at ho; subst ho; decide
                  | 2, _, ho => simp only [List.getElem?_toArray, List.getElem?_cons_zero, List.getElem?_cons_succ, Option.some.injEq] at ho; subst ho; decide
                  | 3, _, ho => simp only [List.getElem?_toArray, List.getElem?_cons_zero, List.getElem?_cons_succ, Option.some.injEq] at ho; subst ho; decide
                  | 4, _, ho => simp only [List.getElem?_toArray, List.getElem?_cons_zero, List.getElem?_cons_succ, Option.some.injEq] at ho; subst ho; decide
                  | 5, _, ho => simp only [List.getElem?_toArray, List.getElem?_cons_zero, List.getElem?_cons_succ, Option.some.injEq] at ho; subst ho; decide
                  | 6, _, ho => simp only [List.getElem?_toArray, List.getElem?_cons_zero, List.getElem?_cons_succ, Option.some.injEq] at ho; subst ho; decide
                  | 7, _, ho => simp only [List.getElem?_toArray, List.getElem?_cons_zero, List.getElem?_cons_succ, Option.some.injEq] at ho; subst ho; decide
                  | 8, _, ho => simp only [List.getElem?_toArray, List.getElem?_cons_zero, List.getElem?_cons_succ, Option.some.injEq] at ho; subst ho; decide
                case hmen =>
                  intro i o ho m hm
                  have hi : i < 9 := (Array.getElem?_eq_some_iff.1 ho).1
                  simp only [List.mem_singleton] at hm
                  subst hm
                  exact ⟨hi, .inl rfl⟩
                case hS =>
                  intro i T T' w w' h hm hb
                  match i, h, hm with
                  | 0, h, hm => exact (show T'[83]? = T[83]? from hm 0 (by simp)).trans h
                  | 1, h, hm => exact (show T'[84]? = T[84]? from hm 1 (by simp)).trans h
                  | 2, ⟨v, h1, h2, l, h3⟩, hm => exact ⟨v, (show T'[85]? = T[85]? from hm 2 (by simp)).trans h1, hb.row h3 h2, hb.there h3⟩
                  | 3, h, hm => exact (show T'[86]? = T[86]? from hm 3 (by simp)).trans h
                  | 4, h, hm => exact (show T'[87]? = T[87]? from hm 4 (by simp)).trans h
                  | 5, h, hm => exact (show T'[88]? = T[88]? from hm 5 (by simp)).trans h
                  | 6, h, hm => exact (show T'[89]? = T[89]? from hm 6 (by simp)).trans h
                  | 7, h, hm => exact hb.stored h
                  | 8, h, hm => exact (show T'[3]? = T[3]? from hm 8 (by simp)).trans h
                  | _ + 9, _, _ => trivial
                case step =>
                  intro i o a w ho hd hs hf hb hdep
                  have hi : i < 9 := (Array.getElem?_eq_some_iff.1 ho).1
                  have hz : a.tmps.size = 90 := hs
                  have BW : Below ws.heap.size ws w := HB.out.trans (hb.1 _ G_t.out (below_size HB.out))
                  match i, hi, ho with
                  | 0, _, ho =>
                    simp only [List.getElem?_toArray, List.getElem?_cons_zero, List.getElem?_cons_succ, Option.some.injEq] at ho; subst ho
                    have e10 : a.eval (.tmp 10) = .pointer (some ⟨g_p, 0, none⟩) := ev_of ((hf 10 (fun j hj => by show (if j = 7 then 1000 else if j = 8 then 3 else 83 + j) ≠ 10; (repeat' split) <;> omega)).trans rfl)
                    refine rel_value (S := fun T w => T[83]? = some (.agg (pg pp))) (v := .agg (pg pp)) (w' := w) ?_ ?_ ?_ (RelT.of (Below.refl _ _))
                    · rfl
                    · exact run_page_load _ rfl g_p pp e10 (hb.page P_q.out (by have := NE_t_p.out; omega))
                    · exact put_self (t := 83) (by rw [hz]; decide)
                  | 1, _, ho =>
                    simp only [List.getElem?_toArray, List.getElem?_cons_zero, List.getElem?_cons_succ, Option.some.injEq] at ho; subst ho
                    have e10 : a.eval (.tmp 10) = .pointer (some ⟨g_p, 0, none⟩) := ev_of ((hf 10 (fun j hj => by show (if j = 7 then 1000 else if j = 8 then 3 else 83 + j) ≠ 10; (repeat' split) <;> omega)).trans rfl)
                    refine rel_value (S := fun T w => T[84]? = some (.agg (pg pp))) (v := .agg (pg pp)) (w' := w) ?_ ?_ ?_ (RelT.of (Below.refl _ _))
                    · rfl
                    · exact run_page_load _ rfl g_p pp e10 (hb.page P_q.out (by have := NE_t_p.out; omega))
                    · exact put_self (t := 84) (by rw [hz]; decide)
                  | 2, _, ho =>
                    simp only [List.getElem?_toArray, List.getElem?_cons_zero, List.getElem?_cons_succ, Option.some.injEq] at ho; subst ho
                    have e84 : a.eval (.tmp 84) = .agg (pg pp) := ev_of (hdep ⟨1, .data⟩ (by simp) rfl)
                    obtain ⟨lt, hlt⟩ := hb.there P_t.out
                    refine rel_call (S := fun T w => ∃ v, T[85]? = some v ∧ Kd.R (Kd.int .u8) 5 w ws.heap.size (fun _ => True) v b ∧ ∃ l, Page w g_t l) rfl (reg_enters Try.func40 (by kernel_rfl) rfl #[.agg (pg pp)] rfl (by simp only [List.map_toArray, List.map_cons, List.map_nil, e84])) ?_
                    refine (rencode_page pp w IPP.out LPP.out).mono ?_
                    rintro e w' ⟨v, rfl, ho_, hb_⟩
                    rw [NPP.out] at ho_
                    exact ⟨v, rfl, ⟨v, put_self (t := 85) (by rw [hz]; decide), Kd.R_lower ho_ (below_size BW), lt, hlt.below hb_⟩, RelT.of hb_⟩
                  | 3, _, ho =>
                    simp only [List.getElem?_toArray, List.getElem?_cons_zero, List.getElem?_cons_succ, Option.some.injEq] at ho; subst ho
                    obtain ⟨v, hv1, hv2, _⟩ : ∃ v, a.tmps[85]? = some v ∧ Kd.R (Kd.int .u8) 5 w ws.heap.size (fun _ => True) v b ∧ ∃ l, Page w g_t l := hdep ⟨2, .data⟩ (by simp) rfl
                    obtain ⟨A_e, c_e, e_e⟩ := Kd.R_slice hv2
                    subst e_e
                    have e85 := ev_of hv1
                    have hcv := Kd.C_string (P := Try.prog) (A := A_e) (c := c_e) Try.underlying22 Try.underlying5 Try.underlying9 (Kd.R_reads' hv2).2.2
                    refine rel_value (S := fun T w => T[86]? = some (.string (strOfNums b))) (v := .string (strOfNums b)) (w' := w) ?_ ?_ ?_ (RelT.of (Below.refl _ _))
                    · rfl
                    · simp only [execOp, e85]; go_simp
                    · exact put_self (t := 86) (by rw [hz]; decide)
                  | 4, _, ho =>
                    simp only [List.getElem?_toArray, List.getElem?_cons_zero, List.getElem?_cons_succ, Option.some.injEq] at ho; subst ho
                    have e0 : a.eval (.tmp 0) = .slice (some ad) b.length c := ev_of ((hf 0 (fun j hj => by show (if j = 7 then 1000 else if j = 8 then 3 else 83 + j) ≠ 0; (repeat' split) <;> omega)).trans rfl)
                    refine rel_value (S := fun T w => T[87]? = some (.slice (some ad) b.length c)) (v := .slice (some ad) b.length c) (w' := w) ?_ ?_ ?_ (RelT.of (Below.refl _ _))
                    · rfl
                    · simp only [execOp, e0]; go_simp
                    · exact put_self (t := 87) (by rw [hz]; decide)
                  | 5, _, ho =>
                    simp only [List.getElem?_toArray, List.getElem?_cons_zero, List.getElem?_cons_succ, Option.some.injEq] at ho; subst ho
                    have e87 : a.eval (.tmp 87) = .slice (some ad) b.length c := ev_of (hdep ⟨4, .data⟩ (by simp) rfl)
                    have hcv := Kd.C_string (P := Try.prog) (A := some ad) (c := c) Try.underlying22 Try.underlying5 Try.underlying9 (Kd.C_below HC.out BW)
                    refine rel_value (S := fun T w => T[88]? = some (.string (strOfNums b))) (v := .string (strOfNums b)) (w' := w) ?_ ?_ ?_ (RelT.of (Below.refl _ _))
                    · rfl
                    · simp only [execOp, e87]; go_simp
                    · exact put_self (t := 88) (by rw [hz]; decide)
                  | 6, _, ho =>
                    simp only [List.getElem?_toArray, List.getElem?_cons_zero, List.getElem?_cons_succ, Option.some.injEq] at ho; subst ho
                    have e86 : a.eval (.tmp 86) = .string (strOfNums b) := ev_of (hdep ⟨3, .data⟩ (by simp) rfl)
                    have e88 : a.eval (.tmp 88) = .string (strOfNums b) := ev_of (hdep ⟨5, .data⟩ (by simp) rfl)
                    refine rel_value (S := fun T w => T[89]? = some (.bool true)) (v := .bool true) (w' := w) ?_ ?_ ?_ (RelT.of (Below.refl _ _))
                    · rfl
                    · simp only [execOp, e86, e88]; go_simp
                    · exact put_self (t := 89) (by rw [hz]; decide)
                  | 7, _, ho =>
                    simp only [List.getElem?_toArray, List.getElem?_cons_zero, List.getElem?_cons_succ, Option.some.injEq] at ho; subst ho
                    have e2 : a.eval (.tmp 2) = .pointer (some ⟨g_t, 0, none⟩) := ev_of ((hf 2 (fun j hj => by show (if j = 7 then 1000 else if j = 8 then 3 else 83 + j) ≠ 2; (repeat' split) <;> omega)).trans rfl)
                    have e83 : a.eval (.tmp 83) = .agg (pg pp) := ev_of (hdep ⟨0, .data⟩ (by simp) rfl)
                    obtain ⟨lt, hlt⟩ := hb.there P_t.out
                    obtain ⟨hr1, hr2⟩ := RelT.store hlt LPP.out
                    refine rel_store (S := fun T w => Page w g_t pp) (Rel := RelT g_t pp) ?_ (.tmp 2) (.tmp 83) ?_ g_t lt pp e2 e83 hlt LPP.out hr2 hr1
                    · rfl
                    · rfl
                  | 8, _, ho =>
                    simp only [List.getElem?_toArray, List.getElem?_cons_zero, List.getElem?_cons_succ, Option.some.injEq] at ho; subst ho
                    have e89 : a.eval (.tmp 89) = .bool true := ev_of (hdep ⟨6, .data⟩ (by simp) rfl)
                    refine rel_value (S := fun T w => T[3]? = some (.bool true)) (v := .bool true) (w' := w) ?_ ?_ ?_ (RelT.of (Below.refl _ _))
                    · rfl
                    · simp only [execOp, e89]; go_simp
                    · exact put_self (t := 3) (by rw [hz]; decide)
                case hend =>
                  intro vs w hb hall hat
                  have h8 := (hat 8 (by omega) (by show 3 < 90; decide)).symm.trans (hall 8 (by omega))
                  have PT : Page w g_t pp := hall 7 (by omega)
                  injection h8 with s8
                  clear hall hat
                  simp only [fillN, Act.put, reduceIte, Nat.reduceEqDiff, Nat.reduceAdd, s8, List.setIfInBounds_toArray, List.set_cons_zero, List.set_cons_succ]
                  have HF := Aside0.mk (HB.out.trans (hb.1 _ G_t.out (below_size HB.out)))
                  have PT' := Aside0.mk PT
                  clear hb s8 PT HINJ
                  go_wp2
                  refine bodyPost_ret (results_page (p := 2) (q := 3) rfl _ _ g_t pp _ rfl rfl PT'.out) rfl ?_
                  exact ⟨by rw [R3.out]; rfl, HF.out⟩
end Go.Proofs.Ytbphmpncajfaiaa.K
/- Copy and Kept: a copy of bytes with two marks in its spare room. -/
namespace Go.Proofs.Ytbphmpncajfaiaa.K
open Go.RowKit Go.Proofs.Ytbphmpncajfaiaa.M Go.Proofs.Ytbphmpncajfaiaa.Py Go.Proofs.YtbphmpncajfaiaaW.PrintWords Go.Proofs.YtbphmpncajfaiaaW.PrintLast Go.Proofs.YtbphmpncajfaiaaW.PrintMore
set_option linter.unusedVariables false
set_option linter.unusedSimpArgs false
theorem cut_cap {P : Program} (t e : TypeId) (kh : IntKind) {i : TypeInfo} (ht : P.underlying t = some (.slice e)) (hi : P.info? e = some i) (A : Option Addr) (n c : Nat) (j : Int) (h0 : 0 ≤ j) (hm : j ≤ c) :
    ∀ W : World, (Instr.slice t (.slice A n c) none (some (.int kh j)) none).run P W = .ok (.slice A j.toNat c) W := by
  intro W
  have hel : P.elem t = e := by simp [Program.elem, ht]
  have hu : P.underlying t = some (.slice (P.elem t)) := by rw [hel]; exact ht
  have ha : (A.map fun x => x.add 0) = A := by cases A <;> simp [Addr.add]
  rw [run_slice_h W t A n c hu kh j h0 (by omega), hel]
  simp [sizeOf, typeInfo, hi, sliced, Result.andThen, ha]
set_option maxHeartbeats 8000000 in
set_option maxRecDepth 100000 in
theorem copy_calls (A0 : Option Addr) (c0 : Nat) (l : List Int) (w : World) (hC : Kd.C (Kd.int .u8) w A0 l.length l) (hc : l.length ≤ c0) (hl : l.length ≤ 1099511627776) :
    Calls Try.prog 18 #[.slice A0 l.length c0] w fun e w' => ∃ A c, e = .returned (.slice A l.length c) ∧ Kd.R (Kd.int .u8) 5 w' w.heap.size (fun _ => True) (.slice A (l.length + 2) c) (l ++ [165, 90]) ∧ l.length + 2 ≤ c ∧ Below w.heap.size w w' := by
  have HC := Aside0.mk hC
  have LC := Aside0.mk hc
  have LL := Aside0.mk hl
  clear hC hc hl
  obtain ⟨mk, hmk⟩ : ∃ m : List Int, m = [165, 90] := ⟨_, rfl⟩
  have Nmk := Aside0.mk hmk
  obtain ⟨y, hy⟩ : ∃ y : List Int, y = l ++ mk := ⟨_, rfl⟩
  have Ny := Aside0.mk hy
  have hyl : y.length = l.length + 2 := by rw [hy, hmk]; simp
  have HYL := Aside0.mk hyl
  clear hy hyl hmk
  have Lx : (l.length : Int) ≤ 1099511627776 := by have := LL.out; omega
  obtain ⟨i0, hi0, _, hsz, _⟩ := info_parts info5
  go_enter Try.func18, Try.ntmps18
  go_wp2_with (first | ((with_reducible refine gate_dst (N := 6) rfl ?_); refine R_make_cap (Kd.int .u8) (w0 := w) w.heap.size 5 rfl (N := 6) rfl 22 _ _ rfl 0 ((l.length : Int) + 2) rfl rfl Try.underlying22 (.int .u8 0) 1 info5 rfl (by decide) (by omega) 0 (ok := fun _ => True) (okp := fun _ => True) rfl (fun _ hk => hk) trivial (by omega) (by omega) (by have := LL.out; omega) (Below.refl _ _) (Nat.le_refl _) ?_; intro w_a ho_ hb_ hg_; have ho2_ : Kd.R (Kd.int .u8) 5 w_a w.heap.size (fun _ => True) (.slice (some ⟨w.heap.size, 0, none⟩) 0 (l.length + 2)) [] := ho_; have HOWN := Aside0.mk ho2_; clear ho2_; have HOB := Aside0.mk hb_; clear ho_ hb_ hg_) | ((with_reducible refine gate_builtin (b := .append) (xs := #[.tmp 6, .tmp 7]) rfl ?_); at_builtin; (refine Kd.R_append_rows (Kd.int .u8) (w0 := w) w.heap.size rfl (.tmp 6) (.tmp 7) 22 5 (.int .u8 0) 1 rfl Try.underlying22 info5 rfl (by decide) (by omega) (.slice (some ⟨w.heap.size, 0, none⟩) 0 (l.length + 2)) [] l _ _ _ (fun _ => True) (fun _ => False) rfl rfl ?aO ?aR (fun _ _ h => h) (fun _ h => h.elim) ?aF ?aB ?aS ?aL ?_; (case aO => exact HOWN.out); (case aR => exact Kd.C_below HC.out HOB.out); (case aB => exact HOB.out); (case aF => exact (fun _ _ => trivial)); (case aS => exact below_size HOB.out); (case aL => have := LL.out; simp; omega); intro v_b w_b ho_ hb_ hg_ hat_; replace ho_ : Kd.R (Kd.int .u8) 5 w_b w.heap.size (fun _ => True) v_b l := ho_; replace HOWN := Aside0.mk ho_; replace HOB := Aside0.mk hb_; clear ho_ hb_ hg_ hat_)) | ((with_reducible refine gate_dst (N := 9) rfl ?_); refine C_lit (Kd.int .u8) 5 ?hg (N := 9) ?hd (xs := [165, 90]) (inner := [.int .u8 165, .int .u8 90]) ?hr ?hp (by simp) ?_; (case hd => rfl); (case hg => rfl); (case hr => first | (go_simp; done) | (go_simp; rfl)); (case hp => exact Reps.one rfl (Reps.one rfl (Reps.none _ _))); intro w_c A_c c_c hc_ l_c hb_; rw [← Nmk.out] at hc_ l_c ⊢; have CMK := Aside0.mk hc_; replace HOWN := Aside0.mk (Kd.R_below HOWN.out hb_); replace HOB := Aside0.mk (below_step HOB.out hb_); clear hc_ l_c hb_) | ((with_reducible refine gate_builtin (b := .append) (xs := #[.tmp 8, .tmp 9]) rfl ?_); at_builtin; refine Kd.R_append_rows (Kd.int .u8) (w0 := w) w.heap.size rfl (.tmp 8) (.tmp 9) 22 5 (.int .u8 0) 1 rfl Try.underlying22 info5 rfl (by decide) (by omega) v_b l mk _ _ _ (fun _ => True) (fun _ => False) rfl rfl ?aO ?aR (fun _ _ h => h) (fun _ h => h.elim) ?aF ?aB ?aS ?aL ?_; (case aO => exact HOWN.out); (case aR => exact CMK.out); (case aB => exact HOB.out); (case aF => exact (fun _ _ => trivial)); (case aS => exact below_size HOB.out); (case aL => have := LL.out; rw [Nmk.out]; simp; omega); intro v_d w_d ho_ hb_ hg_ hat_; rw [← Ny.out] at ho_; replace HOWN := Aside0.mk ho_; replace HOB := Aside0.mk hb_; clear ho_ hb_ hg_ hat_; obtain ⟨A_d, c_d, e_d⟩ := Kd.R_slice HOWN.out; subst e_d; have HRM := Aside0.mk (Kd.R_reads' HOWN.out).2.1; have hcut := cut_to (P := Try.prog) 22 5 .i64 Try.underlying22 hi0 A_d y.length c_d (l.length : Int) (by omega) (by have := HYL.out; omega) HRM.out; simp only [Int.toNat_natCast] at hcut))
  go_ret
  refine ⟨A_d, c_d, rfl, ?_, by have := HRM.out; have := HYL.out; omega, HOB.out⟩
  have h := HOWN.out
  rw [HYL.out, Ny.out, Nmk.out] at h
  exact h
set_option maxHeartbeats 8000000 in
set_option maxRecDepth 100000 in
theorem kept_calls (A A1 : Option Addr) (c c1 base : Nat) (l : List Int) (w : World) (hR : Kd.R (Kd.int .u8) 5 w base (fun _ => True) (.slice A (l.length + 2) c) (l ++ [165, 90])) (hcc : l.length + 2 ≤ c) (hC : Kd.C (Kd.int .u8) w A1 l.length l) (hc : l.length ≤ c1) (hl : l.length ≤ 1099511627776) (hcm : c ≤ 9223372036854775807) :
    Calls Try.prog 23 #[.slice A l.length c, .slice A1 l.length c1] w fun e w' => e = .returned (.bool true) ∧ Below w.heap.size w w' := by
  have hyl : (l ++ [165, 90]).length = l.length + 2 := by simp
  obtain ⟨g, rfl, hgb, hgl, hbad⟩ := R_form hR (by omega)
  clear hbad
  have hR' : Kd.R (Kd.int .u8) 5 w base (fun _ => True) (.slice (some ⟨g, 0, none⟩) (l ++ [165, 90]).length c) (l ++ [165, 90]) := by rw [hyl]; exact hR
  have hA := Kd.R_cell 0 hR' (l.length : Int) (by omega) (by omega)
  have hB := Kd.R_cell 0 hR' ((l.length : Int) + 1) (by omega) (by omega)
  have e1 : ((l.length : Int) + 1).toNat = l.length + 1 := by omega
  simp only [rdOf, Int.toNat_natCast, e1] at hA hB
  have hc1 : w.cell? ⟨g, l.length, none⟩ = some (.int .u8 165) := by simpa using hA.1
  have hc2 : w.cell? ⟨g, l.length + 1, none⟩ = some (.int .u8 90) := by simpa using hB.1
  have hT := Kd.R_take hR' (m := l.length) (by omega)
  rw [List.take_left] at hT
  have hcv1 := own_string (P := Try.prog) Try.underlying22 Try.underlying5 Try.underlying9 (Kd.own_of_R hT)
  have hcv2 := Kd.C_string (P := Try.prog) (A := A1) (c := c1) Try.underlying22 Try.underlying5 Try.underlying9 hC
  obtain ⟨i0, hi0, _, hsz, _⟩ := info_parts info5
  have hcut := cut_cap (P := Try.prog) 22 5 .i64 Try.underlying22 hi0 (some ⟨g, 0, none⟩) l.length c ((l.length : Int) + 2) (by omega) (by omega)
  have e2 : ((l.length : Int) + 2).toNat = l.length + 2 := by omega
  rw [e2] at hcut
  have Lx : (l.length : Int) ≤ 1099511627776 := by omega
  have hlt : decide ((c : Int) < (l.length : Int) + 2) = false := decide_eq_false (by omega)
  have q1 : l.length < l.length + 2 := by omega
  have q2 : l.length + 1 < l.length + 2 := by omega
  have q3 : ((l.length : Int)) < (l.length : Int) + 2 := by omega
  have q4 : ((l.length : Int)) + 1 < (l.length : Int) + 2 := by omega
  have q5 : 0 ≤ (l.length : Int) + 1 := by omega
  clear hA hB e2 hyl hR hR' hT hC hi0 hsz hcc
  go_enter Try.func23, Try.ntmps23
  go_wp2
  go_ret
  exact ⟨rfl, Below.refl _ _⟩
end Go.Proofs.Ytbphmpncajfaiaa.K
/- The package's fixed fact of layer 2: alive() answers true. -/
namespace Go.Proofs.Ytbphmpncajfaiaa.K
open Go.RowKit Go.Proofs.Ytbphmpncajfaiaa.Py Go.Proofs.YtbphmpncajfaiaaW.PrintWords Go.Proofs.YtbphmpncajfaiaaW.PrintLast Go.Proofs.YtbphmpncajfaiaaW.PrintMore
set_option linter.unusedVariables false
set_option linter.unusedSimpArgs false
theorem hbox : wire_Box.f 400 10 [[104], [105]] = some ([114, 150, 221, 128, 0, 2, 104, 105, 0, 0], none) := by decide +kernel
theorem hput : wire_Put.f 40 [] [0, -1, 1, 64] = some [0, 1, 2, 128, 1] := by decide +kernel
theorem hchk : wire_Check.f 400 [[49, 50, 51, 52], [53, 54, 55, 56, 57]] = some 3421780262 := by decide +kernel
theorem str_a : (strOfNums [0, 1, 2, 128, 1]).toList = ([0, 1, 2, 128, 1] : List UInt8) := by decide +kernel
set_option maxHeartbeats 8000000 in
set_option maxRecDepth 100000 in
theorem alive_calls (w : World) : Calls Try.prog 16 #[] w fun e w' => e = .returned (.bool true) ∧ Below w.heap.size w w' := by
  have HB := Aside0.mk (Below.refl w.heap.size w)
  obtain ⟨ya, hya⟩ : ∃ y : List Int, y = [104] := ⟨_, rfl⟩
  obtain ⟨yb, hyb⟩ : ∃ y : List Int, y = [105] := ⟨_, rfl⟩
  obtain ⟨yc, hyc⟩ : ∃ y : List (List Int), y = [ya, yb] := ⟨_, rfl⟩
  obtain ⟨yd, hyd⟩ : ∃ y : List Int, y = [(0), (-1), (1), (64)] := ⟨_, rfl⟩
  obtain ⟨ye, hye⟩ : ∃ y : List Int, y = [49, 50, 51, 52] := ⟨_, rfl⟩
  obtain ⟨yf, hyf⟩ : ∃ y : List Int, y = [53, 54, 55, 56, 57] := ⟨_, rfl⟩
  obtain ⟨yg, hyg⟩ : ∃ y : List (List Int), y = [ye, yf] := ⟨_, rfl⟩
  obtain ⟨bx, hbx⟩ : ∃ y : List Int, y = [114, 150, 221, 128, 0, 2, 104, 105, 0, 0] := ⟨_, rfl⟩
  obtain ⟨pt, hpt⟩ : ∃ y : List Int, y = [0, 1, 2, 128, 1] := ⟨_, rfl⟩
  have A1 := Aside0.mk (show wire_Box.f 400 10 yc = some (bx, none) by rw [hyc, hya, hyb, hbx]; exact hbox)
  have A2 := Aside0.mk (show wire_Put.f 40 [] yd = some pt by rw [hyd, hpt]; exact hput)
  have A3 := Aside0.mk (show wire_Check.f 400 yg = some 3421780262 by rw [hyg, hye, hyf]; exact hchk)
  have LBX := Aside0.mk (show (4 : Int) ≤ bx.length by rw [hbx]; decide)
  have hlen : ((bx.length : Int) == 10) = true := by rw [hbx]; decide
  have hs1 : ((strOfNums pt).toList == ([0, 1, 2, 128, 1] : List UInt8)) = true := by rw [hpt, str_a]; decide
  have hdx : ((strOfNums (bx.drop 4)).toList == ([0, 2, 104, 105, 0, 0] : List UInt8)) = true := by rw [hbx]; decide +kernel
  have Nya := Aside0.mk hya
  have Nyb := Aside0.mk hyb
  have Nyc := Aside0.mk hyc
  have Nyd := Aside0.mk hyd
  have Nye := Aside0.mk hye
  have Nyf := Aside0.mk hyf
  have Nyg := Aside0.mk hyg
  clear hya hyb hyc hyd hye hyf hyg hbx hpt
  obtain ⟨i0, hi0, _, hsz, _⟩ := info_parts info5
  go_enter Try.func16, Try.ntmps16
  go_wp2_with (first | ((with_reducible refine gate_dst (N := 4) rfl ?_); (try (refine gate_guard (by rfl) ?_; dsimp only)); refine Kd.R_lit (w0 := w) (Kd.int .u8) w.heap.size 5 ?hg (N := 4) ?hd (xs := ([104] : List Int)) (inner := [.int .u8 104]) (ok := fun _ => True) (okp := fun _ => True) ?hr ?hp (fun _ hk => hk) trivial (Below.refl _ _) (Nat.le_refl _) (by simp) ?_; (case hd => rfl); (case hg => rfl); (case hr => first | (go_simp; done) | (go_simp; rfl)); (case hp => exact (Reps.one (show Kd.M (Kd.int .u8) _ _ _ 104 [.int .u8 104] from rfl) (Reps.none _ _))); intro v_a w_a ho_ hb_ hg_ hnew_; rw [← Nya.out] at ho_; have HM_ := Aside0.mk ho_; have HMB_ := Aside0.mk hb_; clear ho_ hb_ hg_ hnew_) | ((with_reducible refine gate_dst (N := 5) rfl ?_); (try (refine gate_guard (by rfl) ?_; dsimp only)); refine mark_event (w0 := w) w.heap.size 5 22 rfl (N := 5) rfl _ rfl rfl Try.underlying22 Try.underlying5 HM_.out (by rw [Nya.out]; decide) HMB_.out (below_size HMB_.out) ?_; intro w_am ⟨A_a, c_a, e_a, l_a, hc_⟩ hb_ hg_; subst e_a; replace HB := Aside0.mk (below_step HB.out hb_); have C_a := Aside0.mk hc_; have L_a := Aside0.mk l_a; clear hc_ hb_ hg_ l_a HM_ HMB_) | ((with_reducible refine gate_dst (N := 6) rfl ?_); (try (refine gate_guard (by rfl) ?_; dsimp only)); refine Kd.R_lit (w0 := w_am) (Kd.int .u8) w_am.heap.size 5 ?hg (N := 6) ?hd (xs := ([105] : List Int)) (inner := [.int .u8 105]) (ok := fun _ => True) (okp := fun _ => True) ?hr ?hp (fun _ hk => hk) trivial (Below.refl _ _) (Nat.le_refl _) (by simp) ?_; (case hd => rfl); (case hg => rfl); (case hr => first | (go_simp; done) | (go_simp; rfl)); (case hp => exact (Reps.one (show Kd.M (Kd.int .u8) _ _ _ 105 [.int .u8 105] from rfl) (Reps.none _ _))); intro v_b w_b ho_ hb_ hg_ hnew_; rw [← Nyb.out] at ho_; have HM_ := Aside0.mk ho_; have HMB_ := Aside0.mk hb_; clear ho_ hb_ hg_ hnew_) | ((with_reducible refine gate_dst (N := 7) rfl ?_); (try (refine gate_guard (by rfl) ?_; dsimp only)); refine mark_event (w0 := w_am) w_am.heap.size 5 22 rfl (N := 7) rfl _ rfl rfl Try.underlying22 Try.underlying5 HM_.out (by rw [Nyb.out]; decide) HMB_.out (below_size HMB_.out) ?_; intro w_bm ⟨A_b, c_b, e_b, l_b, hc_⟩ hb_ hg_; subst e_b; replace C_a := Aside0.mk (Kd.C_below C_a.out hb_); replace HB := Aside0.mk (below_step HB.out hb_); have C_b := Aside0.mk hc_; have L_b := Aside0.mk l_b; clear hc_ hb_ hg_ l_b HM_ HMB_) | ((with_reducible refine gate_dst (N := 8) rfl ?_); (try (refine gate_guard (by rfl) ?_; dsimp only)); refine C_lit (Kd.slice 5 (Kd.int .u8)) 22 ?hg (N := 8) ?hd (xs := [ya, yb]) (inner := [.slice A_a ya.length c_a, .slice A_b yb.length c_b]) ?hr ?hp (by simp) ?_; (case hd => rfl); (case hg => rfl); (case hr => first | (go_simp; done) | (go_simp; rfl)); (case hp => exact (Reps.one ⟨_, _, rfl, L_a.out, C_a.out⟩ (Reps.one ⟨_, _, rfl, L_b.out, C_b.out⟩ (Reps.none _ _)))); intro w_c A_c c_c hc_ l_c hb_; rw [← Nyc.out] at hc_ l_c ⊢; replace C_a := Aside0.mk (Kd.C_below C_a.out hb_); replace C_b := Aside0.mk (Kd.C_below C_b.out hb_); replace HB := Aside0.mk (below_step HB.out hb_); have C_c := Aside0.mk hc_; have L_c := Aside0.mk l_c; clear hc_ hb_ l_c) | ((with_reducible refine gate_callee (f := 26) rfl ?_); (with_reducible refine gate_dst (N := 9) rfl ?_); (try (refine gate_guard (by rfl) ?_; dsimp only)); refine goesL_ (some 9) rfl rfl Try.func26 (by kernel_rfl) rfl #[.int .i64 10, .slice A_c yc.length c_c] rfl (by (try simp only [List.map_toArray, List.map_cons, List.map_nil]); first | done | rfl) ?_; (refine (wire_Box.calls 400 10 _ _ yc bx none _ ?side1 ?side2 A1.out).mono ?_); (case side1 => exact C_c.out); (case side2 => exact L_c.out); rintro e w_bx ⟨v_bx, rfl, ho_, hb_⟩; refine ⟨_, rfl, ?_⟩; have HB0_ := HB; replace C_c := Aside0.mk (Kd.C_below C_c.out hb_); replace HB := Aside0.mk (below_step HB.out hb_); have H_bx := Aside0.mk (Kd.R_lower ho_ (below_size HB0_.out)); clear ho_ hb_; obtain ⟨A_bx, c_bx, e_bx⟩ := Kd.R_slice H_bx.out; subst e_bx; (try simp only [errW_none, errW_some]); clear HB0_) | ((with_reducible refine gate_dst (N := 12) rfl ?_); (try (refine gate_guard (by rfl) ?_; dsimp only)); refine Kd.R_lit (w0 := w_bx) (Kd.int .i64) w_bx.heap.size 3 ?hg (N := 12) ?hd (xs := ([(0), (-1), (1), (64)] : List Int)) (inner := [.int .i64 (0), .int .i64 (-1), .int .i64 (1), .int .i64 (64)]) (ok := fun _ => True) (okp := fun _ => True) ?hr ?hp (fun _ hk => hk) trivial (Below.refl _ _) (Nat.le_refl _) (by simp) ?_; (case hd => rfl); (case hg => rfl); (case hr => first | (go_simp; done) | (go_simp; rfl)); (case hp => exact (Reps.one (show Kd.M (Kd.int .i64) _ _ _ (0) [.int .i64 (0)] from rfl) (Reps.one (show Kd.M (Kd.int .i64) _ _ _ (-1) [.int .i64 (-1)] from rfl) (Reps.one (show Kd.M (Kd.int .i64) _ _ _ (1) [.int .i64 (1)] from rfl) (Reps.one (show Kd.M (Kd.int .i64) _ _ _ (64) [.int .i64 (64)] from rfl) (Reps.none _ _)))))); have HB0_ := HB; intro v_d w_d ho_ hb_ hg_ hnew_; rw [← Nyd.out] at ho_; replace H_bx := Aside0.mk (Kd.R_below H_bx.out hb_); replace HB := Aside0.mk (below_step HB.out hb_); have H_d := Aside0.mk (Kd.R_lower ho_ (below_size HB0_.out)); clear ho_ hb_ hg_ hnew_ HB0_; obtain ⟨A_d, c_d, e_d⟩ := Kd.R_slice H_d.out; subst e_d) | ((with_reducible refine gate_callee (f := 19) rfl ?_); (with_reducible refine gate_dst (N := 13) rfl ?_); (try (refine gate_guard (by rfl) ?_; dsimp only)); refine goesL_ (some 13) rfl rfl Try.func19 (by kernel_rfl) rfl #[.slice none 0 0, .slice A_d yd.length c_d] rfl (by (try simp only [List.map_toArray, List.map_cons, List.map_nil]); first | done | rfl) ?_; (refine (wire_Put.calls 40 _ _ ([] : List Int) _ _ yd pt _ ?side1 ?side2 ?side3 ?side4 A2.out).mono ?_); (case side1 => exact Kd.C_nil _ _); (case side2 => exact Nat.le_refl _); (case side3 => exact (Kd.R_reads' H_d.out).2.2); (case side4 => exact (Kd.R_reads' H_d.out).2.1); rintro e w_pt ⟨v_pt, rfl, ho_, hb_⟩; refine ⟨_, rfl, ?_⟩; have HB0_ := HB; replace H_bx := Aside0.mk (Kd.R_below H_bx.out hb_); replace H_d := Aside0.mk (Kd.R_below H_d.out hb_); replace HB := Aside0.mk (below_step HB.out hb_); have hcv_pt := own_string (P := Try.prog) Try.underlying22 Try.underlying5 Try.underlying9 (Kd.own_of_R ho_); clear ho_ hb_; clear HB0_) | ((with_reducible refine gate_dst (N := 17) rfl ?_); (try (refine gate_guard (by rfl) ?_; dsimp only)); refine Kd.R_lit (w0 := w_pt) (Kd.int .u8) w_pt.heap.size 5 ?hg (N := 17) ?hd (xs := ([49, 50, 51, 52] : List Int)) (inner := [.int .u8 49, .int .u8 50, .int .u8 51, .int .u8 52]) (ok := fun _ => True) (okp := fun _ => True) ?hr ?hp (fun _ hk => hk) trivial (Below.refl _ _) (Nat.le_refl _) (by simp) ?_; (case hd => rfl); (case hg => rfl); (case hr => first | (go_simp; done) | (go_simp; rfl)); (case hp => exact (Reps.one (show Kd.M (Kd.int .u8) _ _ _ 49 [.int .u8 49] from rfl) (Reps.one (show Kd.M (Kd.int .u8) _ _ _ 50 [.int .u8 50] from rfl) (Reps.one (show Kd.M (Kd.int .u8) _ _ _ 51 [.int .u8 51] from rfl) (Reps.one (show Kd.M (Kd.int .u8) _ _ _ 52 [.int .u8 52] from rfl) (Reps.none _ _)))))); intro v_e w_e ho_ hb_ hg_ hnew_; rw [← Nye.out] at ho_; have HM_ := Aside0.mk ho_; have HMB_ := Aside0.mk hb_; clear ho_ hb_ hg_ hnew_) | ((with_reducible refine gate_dst (N := 18) rfl ?_); (try (refine gate_guard (by rfl) ?_; dsimp only)); refine mark_event (w0 := w_pt) w_pt.heap.size 5 22 rfl (N := 18) rfl _ rfl rfl Try.underlying22 Try.underlying5 HM_.out (by rw [Nye.out]; decide) HMB_.out (below_size HMB_.out) ?_; intro w_em ⟨A_e, c_e, e_e, l_e, hc_⟩ hb_ hg_; subst e_e; replace H_bx := Aside0.mk (Kd.R_below H_bx.out hb_); replace HB := Aside0.mk (below_step HB.out hb_); have C_e := Aside0.mk hc_; have L_e := Aside0.mk l_e; clear hc_ hb_ hg_ l_e HM_ HMB_) | ((with_reducible refine gate_dst (N := 19) rfl ?_); (try (refine gate_guard (by rfl) ?_; dsimp only)); refine Kd.R_lit (w0 := w_em) (Kd.int .u8) w_em.heap.size 5 ?hg (N := 19) ?hd (xs := ([53, 54, 55, 56, 57] : List Int)) (inner := [.int .u8 53, .int .u8 54, .int .u8 55, .int .u8 56, .int .u8 57]) (ok := fun _ => True) (okp := fun _ => True) ?hr ?hp (fun _ hk => hk) trivial (Below.refl _ _) (Nat.le_refl _) (by simp) ?_; (case hd => rfl); (case hg => rfl); (case hr => first | (go_simp; done) | (go_simp; rfl)); (case hp => exact (Reps.one (show Kd.M (Kd.int .u8) _ _ _ 53 [.int .u8 53] from rfl) (Reps.one (show Kd.M (Kd.int .u8) _ _ _ 54 [.int .u8 54] from rfl) (Reps.one (show Kd.M (Kd.int .u8) _ _ _ 55 [.int .u8 55] from rfl) (Reps.one (show Kd.M (Kd.int .u8) _ _ _ 56 [.int .u8 56] from rfl) (Reps.one (show Kd.M (Kd.int .u8) _ _ _ 57 [.int .u8 57] from rfl) (Reps.none _ _))))))); intro v_f w_f ho_ hb_ hg_ hnew_; rw [← Nyf.out] at ho_; have HM_ := Aside0.mk ho_; have HMB_ := Aside0.mk hb_; clear ho_ hb_ hg_ hnew_) | ((with_reducible refine gate_dst (N := 20) rfl ?_); (try (refine gate_guard (by rfl) ?_; dsimp only)); refine mark_event (w0 := w_em) w_em.heap.size 5 22 rfl (N := 20) rfl _ rfl rfl Try.underlying22 Try.underlying5 HM_.out (by rw [Nyf.out]; decide) HMB_.out (below_size HMB_.out) ?_; intro w_fm ⟨A_f, c_f, e_f, l_f, hc_⟩ hb_ hg_; subst e_f; replace H_bx := Aside0.mk (Kd.R_below H_bx.out hb_); replace C_e := Aside0.mk (Kd.C_below C_e.out hb_); replace HB := Aside0.mk (below_step HB.out hb_); have C_f := Aside0.mk hc_; have L_f := Aside0.mk l_f; clear hc_ hb_ hg_ l_f HM_ HMB_) | ((with_reducible refine gate_dst (N := 21) rfl ?_); (try (refine gate_guard (by rfl) ?_; dsimp only)); refine C_lit (Kd.slice 5 (Kd.int .u8)) 22 ?hg (N := 21) ?hd (xs := [ye, yf]) (inner := [.slice A_e ye.length c_e, .slice A_f yf.length c_f]) ?hr ?hp (by simp) ?_; (case hd => rfl); (case hg => rfl); (case hr => first | (go_simp; done) | (go_simp; rfl)); (case hp => exact (Reps.one ⟨_, _, rfl, L_e.out, C_e.out⟩ (Reps.one ⟨_, _, rfl, L_f.out, C_f.out⟩ (Reps.none _ _)))); intro w_g A_g c_g hc_ l_g hb_; rw [← Nyg.out] at hc_ l_g ⊢; replace H_bx := Aside0.mk (Kd.R_below H_bx.out hb_); replace C_e := Aside0.mk (Kd.C_below C_e.out hb_); replace C_f := Aside0.mk (Kd.C_below C_f.out hb_); replace HB := Aside0.mk (below_step HB.out hb_); have C_g := Aside0.mk hc_; have L_g := Aside0.mk l_g; clear hc_ hb_ l_g) | ((with_reducible refine gate_callee (f := 47) rfl ?_); (with_reducible refine gate_dst (N := 22) rfl ?_); (try (refine gate_guard (by rfl) ?_; dsimp only)); refine goesL_ (some 22) rfl rfl Try.func47 (by kernel_rfl) rfl #[.slice A_g yg.length c_g] rfl (by (try simp only [List.map_toArray, List.map_cons, List.map_nil]); first | done | rfl) ?_; (refine (wire_Check.calls 400 _ _ yg 3421780262 _ ?side1 ?side2 A3.out).mono ?_); (case side1 => exact C_g.out); (case side2 => exact L_g.out); rintro e w_ck ⟨rfl, ⟨nd_, rfl⟩⟩; refine ⟨_, rfl, ?_⟩; have HB0_ := HB; replace H_bx := Aside0.mk (Kd.R_below H_bx.out (pw_below_drewN (Below.refl _ _) nd_)); replace C_g := Aside0.mk (Kd.C_below C_g.out (pw_below_drewN (Below.refl _ _) nd_)); replace HB := Aside0.mk (below_step HB.out (pw_below_drewN (Below.refl _ _) nd_)); obtain ⟨A_x, hcut_x, hA_x, hC_x⟩ := print_drop_of (P := Try.prog) (Value.int .u8) 0 22 5 .i64 Try.underlying22 hi0 hsz A_bx c_bx bx 4 (by omega) LBX.out (Kd.R_reads' H_bx.out).2.1; simp only [show (4 : Int).toNat = 4 from rfl] at hcut_x hA_x hC_x; generalize List.drop 4 bx = dx at hcut_x hA_x hC_x hdx; have hR_x := Kd.C_of_reads (h1 := fun _ => rfl) (hA_x _ (Kd.reads_of_C (Kd.R_reads' H_bx.out).2.2)); have hcv_x := Kd.C_string (P := Try.prog) (A := A_x) (c := c_bx - 4) Try.underlying22 Try.underlying5 Try.underlying9 hR_x; clear hR_x hA_x hC_x; clear HB0_))
  go_ret
  exact ⟨rfl, HB.out⟩
end Go.Proofs.Ytbphmpncajfaiaa.K
-- PRINTED by print.py (a twelfth state) out of the translation. Not trusted: Lean checks it.
namespace Go.Proofs.Ytbphmpncajfaiaa.Py
open Go.RowKit Go.Proofs.YtbphmpncajfaiaaW.PrintWords Go.Proofs.YtbphmpncajfaiaaW.PrintLast Go.Proofs.YtbphmpncajfaiaaW.PrintMore
attribute [local go_sem] max2_int min2_int max_two min_two max_three min_three max_four min_four   -- for this text's walks alone
set_option linter.unusedVariables false
set_option linter.unusedSimpArgs false

/-! ### palimpsestnum_Sum: function 48 -/
def palimpsestnum_Sum.l0 : Nat → Int → Int → List (List Int) → Int → Int → Option (Int)
  | 0, _, _, _, _, _ => none
  | k + 1, x1, x5, x8, x9, x10 => if x10 < x9 then (if 0 ≤ x10 then (if x10 < (x8.length : Int) then (if ((rd_L2 x8 x10).length : Int) > (wrap64 (x1 - x5)) then (some x1) else (palimpsestnum_Sum.l0 k x1 (wrap64 (x5 + ((rd_L2 x8 x10).length : Int))) x8 x9 (wrap64 (x10 + 1)))) else (none)) else (none)) else (some x5)
def palimpsestnum_Sum.f (k : Nat) (l0 : List (List Int)) (a1 : Int) : Option (Int) := palimpsestnum_Sum.l0 k a1 0 l0 (l0.length : Int) 0
theorem palimpsestnum_Sum.mono_l : ∀ k, (∀ y0 y1 y2 y3 y4, LeO (palimpsestnum_Sum.l0 k y0 y1 y2 y3 y4) (palimpsestnum_Sum.l0 (k + 1) y0 y1 y2 y3 y4))
  | 0 => fun _ _ _ _ _ r h => by simp [palimpsestnum_Sum.l0] at h
  | k + 1 => by
    have ih0 := palimpsestnum_Sum.mono_l k
    · intro y0 y1 y2 y3 y4
      unfold palimpsestnum_Sum.l0
      repeat' first
      | (with_reducible exact ih0 _ _ _ _ _)
      | (with_reducible exact LeO.refl _)
      | (with_reducible exact LeO.none _)
      | (with_reducible refine LeO.ite ?_ ?_)
      | (with_reducible refine LeO.bind ?_ (fun _ => ?_))
      | exact ih0 _ _ _ _ _
      | exact LeO.none _
      | refine LeO.ite ?_ ?_
      | refine LeO.bind ?_ (fun _ => ?_)
theorem palimpsestnum_Sum.mono : ∀ a0 a1 k, LeO (palimpsestnum_Sum.f k a0 a1) (palimpsestnum_Sum.f (k + 1) a0 a1) := by
  intro a0 a1 k
  have ih0 := palimpsestnum_Sum.mono_l k
  unfold palimpsestnum_Sum.f
  repeat' first
      | (with_reducible exact ih0 _ _ _ _ _)
      | (with_reducible exact LeO.refl _)
      | (with_reducible exact LeO.none _)
      | (with_reducible refine LeO.ite ?_ ?_)
      | (with_reducible refine LeO.bind ?_ (fun _ => ?_))
      | exact ih0 _ _ _ _ _
      | exact LeO.none _
      | refine LeO.ite ?_ ?_
      | refine LeO.bind ?_ (fun _ => ?_)
set_option maxHeartbeats 8000000 in
set_option maxRecDepth 100000 in
theorem palimpsestnum_Sum.calls (k : Nat) (A0 : Option Addr) (c0 : Nat) (l0 : List (List Int)) (a1 : Int) (r : Int) (w : World) (hr0 : Kd.C (Kd.slice 5 (Kd.int .u8)) w A0 l0.length l0) (hc0 : l0.length ≤ c0) (h : palimpsestnum_Sum.f k l0 a1 = some r) :
    Calls Try.prog 48 #[.slice A0 l0.length c0, .int .i64 a1] w fun e w' => e = .returned (.int .i64 r) ∧ Drawn0 w w' := by
  have HR0 := Aside0.mk hr0
  have HC0 := Aside0.mk hc0
  clear hr0 hc0
  have H : (palimpsestnum_Sum.l0 k a1 0 l0 (l0.length : Int) 0) = some r := h
  clear h
  have H' := Aside0.mk H
  clear H
  go_enter Try.func48, Try.ntmps48
  go_wp2
  go_loopg [5, 10] k (fun kq v5 v10 w' => ∃ (x5_1 : Int) (x10_1 : Int), v5 = .int .i64 x5_1 ∧ v10 = .int .i64 x10_1 ∧ Aside0 (palimpsestnum_Sum.l0 kq a1 x5_1 l0 (l0.length : Int) x10_1 = some r) ∧ Aside0 (kq ≤ k) ∧ Drawn0 w w')
  case atStart => exact ⟨(0), (0), (by first | rfl | (simp; done) | (simp [*]; done)), (by first | rfl | (simp; done) | (simp [*]; done)), H', ⟨Nat.le_refl _⟩, by repeat (first | exact Drawn0.refl _ | apply Drawn0.step)⟩
  case round =>
    clear H'
    try clear p2
    obtain ⟨x5_1, x10_1, rfl, rfl, HA, HK1, ⟨m1, rfl⟩⟩ := hrel
    cases gk with
    | zero => exact absurd HA.out (by simp [palimpsestnum_Sum.l0])
    | succ k1 =>
      have H := HA.out
      clear HA
      simp only [palimpsestnum_Sum.l0] at H
      by_cases c3 : x10_1 < (l0.length : Int)
      · rw [if_pos c3] at H
        have c3b0 : decide (x10_1 < (l0.length : Int)) = true := decide_eq_true c3
        clear c3
        by_cases c4 : 0 ≤ x10_1
        · rw [if_pos c4] at H
          have c4b0 : decide (0 ≤ x10_1) = true := decide_eq_true c4
          clear c4
          by_cases c5 : x10_1 < (l0.length : Int)
          · rw [if_pos c5] at H
            have c5b0 : decide (x10_1 < (l0.length : Int)) = true := decide_eq_true c5
            clear c5
            by_cases c6 : ((rd_L2 l0 x10_1).length : Int) > (wrap64 (a1 - x5_1))
            · rw [if_pos c6] at H
              have c6b0 : decide ((wrap64 (a1 - x5_1)) < ((rd_L2 l0 x10_1).length : Int)) = true := decide_eq_true c6
              clear c6
              obtain rfl := Option.some.inj H
              have p178 : 0 ≤ (x10_1 : Int) := of_decide_eq_true (by first | (with_reducible assumption) | assumption)
              have q178 : x10_1 < (l0.length : Int) := of_decide_eq_true (by first | (with_reducible assumption) | assumption)
              obtain ⟨ad178, A178_0, c178_0, e178, hx178_0, hl178_0, hi178_0⟩ := at_L2 HR0.out x10_1 p178 q178
              cases e178
              have HR178_0 := Aside0.mk hi178_0
              have HC178_0 := Aside0.mk hl178_0
              clear hi178_0 hl178_0
              replace p178 := eq_true p178
              replace q178 := eq_true q178
              go_wp2
              go_ret
              exact ⟨by first | rfl | (simp; done) | (simp [*]; done), by repeat (first | exact Drawn0.refl _ | apply Drawn0.step)⟩
            · rw [if_neg c6] at H
              have c6b0 : decide ((wrap64 (a1 - x5_1)) < ((rd_L2 l0 x10_1).length : Int)) = false := decide_eq_false c6
              clear c6
              have H' := Aside0.mk H
              clear H
              have p178 : 0 ≤ (x10_1 : Int) := of_decide_eq_true (by first | (with_reducible assumption) | assumption)
              have q178 : x10_1 < (l0.length : Int) := of_decide_eq_true (by first | (with_reducible assumption) | assumption)
              obtain ⟨ad178, A178_0, c178_0, e178, hx178_0, hl178_0, hi178_0⟩ := at_L2 HR0.out x10_1 p178 q178
              cases e178
              have HR178_0 := Aside0.mk hi178_0
              have HC178_0 := Aside0.mk hl178_0
              clear hi178_0 hl178_0
              replace p178 := eq_true p178
              replace q178 := eq_true q178
              go_wp2
              go_roundg k1
              case measure => have := HK1.out; omega
              case rel => exact ⟨(wrap64 (x5_1 + ((rd_L2 l0 x10_1).length : Int))), (wrap64 (x10_1 + 1)), (by first | rfl | (simp; done) | (simp [*]; done)), (by first | rfl | (simp; done) | (simp [*]; done)), H', ⟨by have := HK1.out; omega⟩, by repeat (first | exact Drawn0.refl _ | apply Drawn0.step)⟩
          · rw [if_neg c5] at H
            exact absurd H (by simp)
        · rw [if_neg c4] at H
          exact absurd H (by simp)
      · rw [if_neg c3] at H
        have c3b0 : decide (x10_1 < (l0.length : Int)) = false := decide_eq_false c3
        clear c3
        obtain rfl := Option.some.inj H
        go_wp2
        go_ret
        exact ⟨by first | rfl | (simp; done) | (simp [*]; done), by repeat (first | exact Drawn0.refl _ | apply Drawn0.step)⟩

end Go.Proofs.Ytbphmpncajfaiaa.Py
-- PRINTED by print.py (a twelfth state) out of the translation. Not trusted: Lean checks it.
namespace Go.Proofs.Ytbphmpncajfaiaa.Py
open Go.RowKit Go.Proofs.YtbphmpncajfaiaaW.PrintWords Go.Proofs.YtbphmpncajfaiaaW.PrintLast Go.Proofs.YtbphmpncajfaiaaW.PrintMore
attribute [local go_sem] max2_int min2_int max_two min_two max_three min_three max_four min_four   -- for this text's walks alone
set_option linter.unusedVariables false
set_option linter.unusedSimpArgs false

/-! ### palimpsestlaw02_large: function 17 -/
def palimpsestlaw02_large.f (k : Nat) (l0 : List (List Int)) : Option (Bool) := (palimpsestnum_Sum.f k l0 1073741824).bind fun t179 => (some (decide (t179 > 131072)))
theorem palimpsestlaw02_large.mono : ∀ a0 k, LeO (palimpsestlaw02_large.f k a0) (palimpsestlaw02_large.f (k + 1) a0) := by
  intro a0 k
  unfold palimpsestlaw02_large.f
  repeat' first
      | (with_reducible exact palimpsestnum_Sum.mono _ _ _)
      | (with_reducible exact LeO.refl _)
      | (with_reducible exact LeO.none _)
      | (with_reducible refine LeO.ite ?_ ?_)
      | (with_reducible refine LeO.bind ?_ (fun _ => ?_))
      | exact palimpsestnum_Sum.mono _ _ _
      | exact LeO.none _
      | refine LeO.ite ?_ ?_
      | refine LeO.bind ?_ (fun _ => ?_)
set_option maxHeartbeats 8000000 in
set_option maxRecDepth 100000 in
theorem palimpsestlaw02_large.calls (k : Nat) (A0 : Option Addr) (c0 : Nat) (l0 : List (List Int)) (r : Bool) (w : World) (hr0 : Kd.C (Kd.slice 5 (Kd.int .u8)) w A0 l0.length l0) (hc0 : l0.length ≤ c0) (h : palimpsestlaw02_large.f k l0 = some r) :
    Calls Try.prog 17 #[.slice A0 l0.length c0] w fun e w' => e = .returned (.bool r) ∧ Drawn0 w w' := by
  have HR0 := Aside0.mk hr0
  have HC0 := Aside0.mk hc0
  clear hr0 hc0
  have H : ((palimpsestnum_Sum.f k l0 1073741824).bind fun t179 => (some (decide (t179 > 131072)))) = some r := h
  clear h
  replace H := Option.bind_eq_some_iff.mp H
  obtain ⟨t179, A20, H⟩ := H
  replace H : (some (decide (t179 > 131072))) = some r := H
  have A2 := Aside0.mk A20
  clear A20
  obtain rfl := Option.some.inj H
  go_enter Try.func17, Try.ntmps17
  go_wp2_with (first | ((with_reducible refine gate_callee (f := 48) rfl ?_); refine goesL_ (some 4) rfl rfl Try.func48 (by kernel_rfl) rfl #[.slice A0 l0.length c0, .int .i64 1073741824] rfl (by (try simp only [List.map_toArray, List.map_cons, List.map_nil]); first | done | rfl | (simp only [List.length_drop, List.length_take]; rfl)) ?_; (with_reducible refine (palimpsestnum_Sum.calls k _ _ l0 1073741824 t179 _ ?side1 ?side2 A2.out).mono ?_); (case side1 => repeat (first | exact HR0.out | (with_reducible refine Kd.C_alloc ?_ _) | (with_reducible refine Kd.C_drewN ?_ _) | (with_reducible refine Kd.C_drew ?_))); (case side2 => exact HC0.out); rintro e w' ⟨rfl, ⟨nd, rfl⟩⟩; refine ⟨_, rfl, ?_⟩))
  go_ret
  exact ⟨by first | rfl | (simp; done) | (simp [*]; done), by repeat (first | exact Drawn0.refl _ | apply Drawn0.step)⟩

end Go.Proofs.Ytbphmpncajfaiaa.Py
/- WireBoxes' own call: what boxes there are, and what is in them. -/

namespace Go.Proofs.Ytbphmpncajfaiaa.K
open Go.RowKit Go.Proofs.Ytbphmpncajfaiaa.M Go.Proofs.Ytbphmpncajfaiaa.Py Go.Proofs.YtbphmpncajfaiaaW.PrintWords Go.Proofs.YtbphmpncajfaiaaW.PrintLast Go.Proofs.YtbphmpncajfaiaaW.PrintMore
set_option linter.unusedVariables false
set_option linter.unusedSimpArgs false
theorem full_C {A : Option Addr} {c base : Nat} {l : List Int} {w : World} (h : Kd.R (Kd.int .u8) 5 w base (fun _ => True) (.slice A (l.length + 2) c) (l ++ [165, 90])) : Kd.C (Kd.int .u8) w A l.length l := by
  have h1 := Kd.R_take h (m := l.length) (by simp)
  rw [List.take_left] at h1
  exact (Kd.R_reads' h1).2.2
theorem R_room {A : Option Addr} {c base : Nat} {l : List Int} {w : World} (h : Kd.R (Kd.int .u8) 5 w base (fun _ => True) (.slice A (l.length + 2) c) (l ++ [165, 90])) : c ≤ 9223372036854775807 := by
  obtain ⟨_, inner, ho, _⟩ := h
  rcases ho.2 with ⟨he, h0⟩ | ⟨g, cap, cur, he, hb, hh, h1, h2, _⟩
  · injection he with _ h3 h4
    omega
  · injection he with _ _ h3
    unfold maxLen at h2
    omega
theorem str_append (a b : List Int) : strOfNums (a ++ b) = strOfNums a ++ strOfNums b := by
  apply ByteArray.ext
  rw [ByteArray.data_append]
  simp [strOfNums]
set_option maxHeartbeats 8000000 in
set_option maxRecDepth 100000 in
theorem boxes_large (size : Int) (A B : Option Addr) (ca cb : Nat) (la lb : List Int) (w : World) (hA : Kd.C (Kd.int .u8) w A la.length la) (hB : Kd.C (Kd.int .u8) w B lb.length lb) (hca : la.length ≤ ca) (hcb : lb.length ≤ cb) (K1 : Nat)
    (h1 : palimpsestlaw02_large.f K1 [la, lb] = some true) :
    Calls Try.prog 5 #[.int .i64 size, .slice A la.length ca, .slice B lb.length cb] w fun e w' => e = .returned (.bool true) ∧ Below w.heap.size w w' := by
  have CA := Aside0.mk hA
  have CB := Aside0.mk hB
  have LA := Aside0.mk hca
  have LB := Aside0.mk hcb
  have HB := Aside0.mk (Below.refl w.heap.size w)
  have heq := eql49
  have hneq := neq49
  obtain ⟨y, hy⟩ : ∃ y, y = [la, lb] := ⟨_, rfl⟩
  have A1 := Aside0.mk (show palimpsestlaw02_large.f K1 y = some true by rw [hy]; exact h1)
  have Ny := Aside0.mk hy
  clear hA hB hca hcb hy h1
  go_enter Try.func5, Try.ntmps5
  go_wp2_with (first | ((with_reducible refine gate_callee (f := 16) rfl ?_); (with_reducible refine gate_dst (N := 17) rfl ?_); (try (refine gate_guard (by rfl) ?_; dsimp only)); refine goesL_ (some 17) rfl rfl Try.func16 (by kernel_rfl) rfl #[] rfl (by (try simp only [List.map_toArray, List.map_cons, List.map_nil]); first | done | rfl) ?_; (refine (alive_calls _).mono ?_); rintro e w_al ⟨rfl, hb_⟩; refine ⟨_, rfl, ?_⟩; have HB0_ := HB; replace CA := Aside0.mk (Kd.C_below CA.out hb_); replace CB := Aside0.mk (Kd.C_below CB.out hb_); replace HB := Aside0.mk (below_step HB.out hb_); clear hb_; clear HB0_) | ((with_reducible refine gate_dst (N := 21) rfl ?_); (try (refine gate_guard (by rfl) ?_; dsimp only)); refine C_lit (Kd.slice 5 (Kd.int .u8)) 22 ?hg (N := 21) ?hd (xs := [la, lb]) (inner := [.slice A la.length ca, .slice B lb.length cb]) ?hr ?hp (by simp) ?_; (case hd => rfl); (case hg => rfl); (case hr => first | (go_simp; done) | (go_simp; rfl)); (case hp => exact (Reps.one ⟨_, _, rfl, LA.out, CA.out⟩ (Reps.one ⟨_, _, rfl, LB.out, CB.out⟩ (Reps.none _ _)))); intro w_y A_y c_y hc_ l_y hb_; rw [← Ny.out] at hc_ l_y ⊢; replace CA := Aside0.mk (Kd.C_below CA.out hb_); replace CB := Aside0.mk (Kd.C_below CB.out hb_); replace HB := Aside0.mk (below_step HB.out hb_); have C_y := Aside0.mk hc_; have L_y := Aside0.mk l_y; clear hc_ hb_ l_y) | ((with_reducible refine gate_callee (f := 17) rfl ?_); (with_reducible refine gate_dst (N := 22) rfl ?_); (try (refine gate_guard (by rfl) ?_; dsimp only)); refine goesL_ (some 22) rfl rfl Try.func17 (by kernel_rfl) rfl #[.slice A_y y.length c_y] rfl (by (try simp only [List.map_toArray, List.map_cons, List.map_nil]); first | done | rfl) ?_; (refine (palimpsestlaw02_large.calls K1 _ _ y true _ ?side1 ?side2 A1.out).mono ?_); (case side1 => exact C_y.out); (case side2 => exact L_y.out); rintro e w_lg ⟨rfl, ⟨⟨nd_, rfl⟩⟩⟩; refine ⟨_, rfl, ?_⟩; have HB0_ := HB; replace CA := Aside0.mk (Kd.C_below CA.out (pw_below_drewN (Below.refl _ _) nd_)); replace CB := Aside0.mk (Kd.C_below CB.out (pw_below_drewN (Below.refl _ _) nd_)); replace C_y := Aside0.mk (Kd.C_below C_y.out (pw_below_drewN (Below.refl _ _) nd_)); replace HB := Aside0.mk (below_step HB.out (pw_below_drewN (Below.refl _ _) nd_)); clear HB0_))
  go_ret
  exact ⟨rfl, HB.out⟩
set_option maxHeartbeats 8000000 in
set_option maxRecDepth 100000 in
theorem boxes_a (size : Int) (A B : Option Addr) (ca cb : Nat) (la lb : List Int) (w : World) (hA : Kd.C (Kd.int .u8) w A la.length la) (hB : Kd.C (Kd.int .u8) w B lb.length lb) (hca : la.length ≤ ca) (hcb : lb.length ≤ cb) (K1 K2 K3 K5 K6 : Nat)
    (h1 : palimpsestlaw02_large.f K1 [la, lb] = some false) (hll : la.length + lb.length ≤ 131072) (bx inA : List Int) (er erc : Int) (h2 : wire_Box.f K2 size [la, lb] = some (bx, (some er))) (h3 : palimpsestref02_Box.f K3 size (la ++ lb) = some (bx, erc)) (h4 : palimpsestnum_Num.f (some er) = some erc) (h5 : wire_Unbox.f K5 la = some (inA, none)) (h6 : palimpsestref02_Unbox.f K6 la = some (inA, true)) :
    Calls Try.prog 5 #[.int .i64 size, .slice A la.length ca, .slice B lb.length cb] w fun e w' => e = .returned (.bool true) ∧ Below w.heap.size w w' := by
  have CA := Aside0.mk hA
  have CB := Aside0.mk hB
  have LA := Aside0.mk hca
  have LB := Aside0.mk hcb
  have HB := Aside0.mk (Below.refl w.heap.size w)
  have heq := eql49
  have hneq := neq49
  obtain ⟨y, hy⟩ : ∃ y, y = [la, lb] := ⟨_, rfl⟩
  obtain ⟨wh, hwh⟩ : ∃ wh, wh = la ++ lb := ⟨_, rfl⟩
  have A1 := Aside0.mk (show palimpsestlaw02_large.f K1 y = some false by rw [hy]; exact h1)
  have A2 := Aside0.mk (show wire_Box.f K2 size y = some (bx, (some er)) by rw [hy]; exact h2)
  have A3 := Aside0.mk (show palimpsestref02_Box.f K3 size wh = some (bx, erc) by rw [hwh]; exact h3)
  have A4 := Aside0.mk h4
  have A5 := Aside0.mk h5
  have A6 := Aside0.mk h6
  have Ny := Aside0.mk hy
  have Nwh := Aside0.mk hwh
  have LL := Aside0.mk hll
  clear hA hB hca hcb hy h1 h2 h3 h4 h5 h6 hll hwh
  go_enter Try.func5, Try.ntmps5
  go_wp2_with (first | ((with_reducible refine gate_callee (f := 16) rfl ?_); (with_reducible refine gate_dst (N := 17) rfl ?_); (try (refine gate_guard (by rfl) ?_; dsimp only)); refine goesL_ (some 17) rfl rfl Try.func16 (by kernel_rfl) rfl #[] rfl (by (try simp only [List.map_toArray, List.map_cons, List.map_nil]); first | done | rfl) ?_; (refine (alive_calls _).mono ?_); rintro e w_al ⟨rfl, hb_⟩; refine ⟨_, rfl, ?_⟩; have HB0_ := HB; replace CA := Aside0.mk (Kd.C_below CA.out hb_); replace CB := Aside0.mk (Kd.C_below CB.out hb_); replace HB := Aside0.mk (below_step HB.out hb_); clear hb_; clear HB0_) | ((with_reducible refine gate_dst (N := 21) rfl ?_); (try (refine gate_guard (by rfl) ?_; dsimp only)); refine C_lit (Kd.slice 5 (Kd.int .u8)) 22 ?hg (N := 21) ?hd (xs := [la, lb]) (inner := [.slice A la.length ca, .slice B lb.length cb]) ?hr ?hp (by simp) ?_; (case hd => rfl); (case hg => rfl); (case hr => first | (go_simp; done) | (go_simp; rfl)); (case hp => exact (Reps.one ⟨_, _, rfl, LA.out, CA.out⟩ (Reps.one ⟨_, _, rfl, LB.out, CB.out⟩ (Reps.none _ _)))); intro w_y A_y c_y hc_ l_y hb_; rw [← Ny.out] at hc_ l_y ⊢; replace CA := Aside0.mk (Kd.C_below CA.out hb_); replace CB := Aside0.mk (Kd.C_below CB.out hb_); replace HB := Aside0.mk (below_step HB.out hb_); have C_y := Aside0.mk hc_; have L_y := Aside0.mk l_y; clear hc_ hb_ l_y) | ((with_reducible refine gate_callee (f := 17) rfl ?_); (with_reducible refine gate_dst (N := 22) rfl ?_); (try (refine gate_guard (by rfl) ?_; dsimp only)); refine goesL_ (some 22) rfl rfl Try.func17 (by kernel_rfl) rfl #[.slice A_y y.length c_y] rfl (by (try simp only [List.map_toArray, List.map_cons, List.map_nil]); first | done | rfl) ?_; (refine (palimpsestlaw02_large.calls K1 _ _ y false _ ?side1 ?side2 A1.out).mono ?_); (case side1 => exact C_y.out); (case side2 => exact L_y.out); rintro e w_lg ⟨rfl, ⟨⟨nd_, rfl⟩⟩⟩; refine ⟨_, rfl, ?_⟩; have HB0_ := HB; replace CA := Aside0.mk (Kd.C_below CA.out (pw_below_drewN (Below.refl _ _) nd_)); replace CB := Aside0.mk (Kd.C_below CB.out (pw_below_drewN (Below.refl _ _) nd_)); replace C_y := Aside0.mk (Kd.C_below C_y.out (pw_below_drewN (Below.refl _ _) nd_)); replace HB := Aside0.mk (below_step HB.out (pw_below_drewN (Below.refl _ _) nd_)); clear HB0_) | ((with_reducible refine gate_callee (f := 18) rfl ?_); (with_reducible refine gate_dst (N := 24) rfl ?_); (try (refine gate_guard (by rfl) ?_; dsimp only)); refine goesL_ (some 24) rfl rfl Try.func18 (by kernel_rfl) rfl #[.slice A la.length ca] rfl (by (try simp only [List.map_toArray, List.map_cons, List.map_nil]); first | done | rfl) ?_; (refine (copy_calls A ca la _ CA.out LA.out (by have := LL.out; omega)).mono ?_); rintro e w_x ⟨A_x, c_x, rfl, ho_, hcc_, hb_⟩; refine ⟨_, rfl, ?_⟩; have HB0_ := HB; replace CA := Aside0.mk (Kd.C_below CA.out hb_); replace CB := Aside0.mk (Kd.C_below CB.out hb_); replace HB := Aside0.mk (below_step HB.out hb_); have H_x := Aside0.mk (Kd.R_lower ho_ (below_size HB0_.out)); have L_x := Aside0.mk hcc_; clear ho_ hcc_ hb_; clear HB0_) | ((with_reducible refine gate_callee (f := 18) rfl ?_); (with_reducible refine gate_dst (N := 26) rfl ?_); (try (refine gate_guard (by rfl) ?_; dsimp only)); refine goesL_ (some 26) rfl rfl Try.func18 (by kernel_rfl) rfl #[.slice B lb.length cb] rfl (by (try simp only [List.map_toArray, List.map_cons, List.map_nil]); first | done | rfl) ?_; (refine (copy_calls B cb lb _ CB.out LB.out (by have := LL.out; omega)).mono ?_); rintro e w_z ⟨A_z, c_z, rfl, ho_, hcc_, hb_⟩; refine ⟨_, rfl, ?_⟩; have HB0_ := HB; replace CA := Aside0.mk (Kd.C_below CA.out hb_); replace CB := Aside0.mk (Kd.C_below CB.out hb_); replace H_x := Aside0.mk (Kd.R_below H_x.out hb_); replace HB := Aside0.mk (below_step HB.out hb_); have H_z := Aside0.mk (Kd.R_lower ho_ (below_size HB0_.out)); have L_z := Aside0.mk hcc_; clear ho_ hcc_ hb_; clear HB0_) | ((with_reducible refine gate_dst (N := 31) rfl ?_); (try (refine gate_guard (by rfl) ?_; dsimp only)); refine C_lit (Kd.slice 5 (Kd.int .u8)) 22 ?hg (N := 31) ?hd (xs := [la, lb]) (inner := [.slice A_x la.length c_x, .slice A_z lb.length c_z]) ?hr ?hp (by simp) ?_; (case hd => rfl); (case hg => rfl); (case hr => first | (go_simp; done) | (go_simp; rfl)); (case hp => exact (Reps.one ⟨_, _, rfl, (by have := L_x.out; omega), (full_C H_x.out)⟩ (Reps.one ⟨_, _, rfl, (by have := L_z.out; omega), (full_C H_z.out)⟩ (Reps.none _ _)))); intro w_y2 A_y2 c_y2 hc_ l_y2 hb_; rw [← Ny.out] at hc_ l_y2 ⊢; replace CA := Aside0.mk (Kd.C_below CA.out hb_); replace CB := Aside0.mk (Kd.C_below CB.out hb_); replace H_x := Aside0.mk (Kd.R_below H_x.out hb_); replace H_z := Aside0.mk (Kd.R_below H_z.out hb_); replace HB := Aside0.mk (below_step HB.out hb_); have C_y2 := Aside0.mk hc_; have L_y2 := Aside0.mk l_y2; clear hc_ hb_ l_y2) | ((with_reducible refine gate_callee (f := 26) rfl ?_); (with_reducible refine gate_dst (N := 32) rfl ?_); (try (refine gate_guard (by rfl) ?_; dsimp only)); refine goesL_ (some 32) rfl rfl Try.func26 (by kernel_rfl) rfl #[.int .i64 size, .slice A_y2 y.length c_y2] rfl (by (try simp only [List.map_toArray, List.map_cons, List.map_nil]); first | done | rfl) ?_; (refine (wire_Box.calls K2 size _ _ y bx (some er) _ ?side1 ?side2 A2.out).mono ?_); (case side1 => exact C_y2.out); (case side2 => exact L_y2.out); rintro e w_bx ⟨v_bx, rfl, ho_, hb_⟩; refine ⟨_, rfl, ?_⟩; have HB0_ := HB; replace CA := Aside0.mk (Kd.C_below CA.out hb_); replace CB := Aside0.mk (Kd.C_below CB.out hb_); replace H_x := Aside0.mk (Kd.R_below H_x.out hb_); replace H_z := Aside0.mk (Kd.R_below H_z.out hb_); replace C_y2 := Aside0.mk (Kd.C_below C_y2.out hb_); replace HB := Aside0.mk (below_step HB.out hb_); have H_bx := Aside0.mk (Kd.R_lower ho_ (below_size HB0_.out)); clear ho_ hb_; obtain ⟨A_bx, c_bx, e_bx⟩ := Kd.R_slice H_bx.out; subst e_bx; (try simp only [errW_none, errW_some]); clear HB0_) | ((with_reducible refine gate_dst (N := 37) rfl ?_); (try (refine gate_guard (by rfl) ?_; dsimp only)); refine Kd.R_lit (w0 := w_bx) (Kd.int .u8) w_bx.heap.size 5 ?hg (N := 37) ?hd (xs := []) (inner := []) (ok := fun _ => True) (okp := fun _ => True) ?hr ?hp (fun _ hk => hk) trivial (Below.refl _ _) (Nat.le_refl _) (by simp) ?_; (case hd => rfl); (case hg => rfl); (case hr => first | (go_simp; done) | (go_simp; rfl)); (case hp => exact (Reps.none _ _)); intro v_o w_o ho_ hb_ hg_ hnew_; have HOWN := Aside0.mk ho_; have HOB := Aside0.mk hb_; clear ho_ hb_ hg_ hnew_) | ((with_reducible refine gate_builtin (b := .append) (xs := #[.tmp 37, .tmp 38]) rfl ?_); at_builtin; refine Kd.R_append_rows (Kd.int .u8) (w0 := w_bx) w_bx.heap.size rfl (.tmp 37) (.tmp 38) 22 5 (.int .u8 0) 1 rfl Try.underlying22 info5 rfl (by decide) (by omega) v_o [] la _ _ _ (fun _ => True) (fun _ => False) rfl rfl ?aO ?aR (fun _ _ h => h) (fun _ h => h.elim) ?aF ?aB ?aS ?aL ?_; (case aR => exact Kd.C_below CA.out HOB.out); (case aB => exact HOB.out); (case aF => exact (fun _ _ => trivial)); (case aO => exact HOWN.out); (case aS => exact below_size HOB.out); (case aL => have := LL.out; simp; omega); intro v_oa w_oa ho_ hb_ hg_ hat_; rw [List.nil_append] at ho_; replace HOWN := Aside0.mk ho_; replace HOB := Aside0.mk hb_; clear ho_ hb_ hg_ hat_) | ((with_reducible refine gate_builtin (b := .append) (xs := #[.tmp 39, .tmp 40]) rfl ?_); at_builtin; refine Kd.R_append_rows (Kd.int .u8) (w0 := w_bx) w_bx.heap.size rfl (.tmp 39) (.tmp 40) 22 5 (.int .u8 0) 1 rfl Try.underlying22 info5 rfl (by decide) (by omega) v_oa la lb _ _ _ (fun _ => True) (fun _ => False) rfl rfl ?aO ?aR (fun _ _ h => h) (fun _ h => h.elim) ?aF ?aB ?aS ?aL ?_; (case aR => exact Kd.C_below CB.out HOB.out); (case aB => exact HOB.out); (case aF => exact (fun _ _ => trivial)); (case aO => exact HOWN.out); (case aS => exact below_size HOB.out); (case aL => have := LL.out; omega); intro v_ob w_ob ho_ hb_ hg_ hat_; rw [← Nwh.out] at ho_; replace HOWN := Aside0.mk ho_; replace HOB := Aside0.mk hb_; clear ho_ hb_ hg_ hat_; have HB0_ := HB; replace CA := Aside0.mk (Kd.C_below CA.out HOB.out); replace CB := Aside0.mk (Kd.C_below CB.out HOB.out); replace H_x := Aside0.mk (Kd.R_below H_x.out HOB.out); replace H_z := Aside0.mk (Kd.R_below H_z.out HOB.out); replace H_bx := Aside0.mk (Kd.R_below H_bx.out HOB.out); replace HB := Aside0.mk (below_step HB.out HOB.out); have H_wh := Aside0.mk (Kd.R_lower HOWN.out (below_size HB0_.out)); clear HOWN HOB HB0_; obtain ⟨A_wh, c_wh, e_wh⟩ := Kd.R_slice H_wh.out; subst e_wh) | ((with_reducible refine gate_callee (f := 27) rfl ?_); (with_reducible refine gate_dst (N := 42) rfl ?_); (try (refine gate_guard (by rfl) ?_; dsimp only)); refine goesL_ (some 42) rfl rfl Try.func27 (by kernel_rfl) rfl #[.int .i64 size, .slice A_wh wh.length c_wh] rfl (by (try simp only [List.map_toArray, List.map_cons, List.map_nil]); first | done | rfl) ?_; (refine (palimpsestref02_Box.calls K3 size _ _ wh bx erc _ ?side1 ?side2 A3.out).mono ?_); (case side1 => exact (Kd.R_reads' H_wh.out).2.2); (case side2 => exact (Kd.R_reads' H_wh.out).2.1); rintro e w_rb ⟨v_rb, rfl, ho_, hb_⟩; refine ⟨_, rfl, ?_⟩; have HB0_ := HB; replace CA := Aside0.mk (Kd.C_below CA.out hb_); replace CB := Aside0.mk (Kd.C_below CB.out hb_); replace H_x := Aside0.mk (Kd.R_below H_x.out hb_); replace H_z := Aside0.mk (Kd.R_below H_z.out hb_); replace H_bx := Aside0.mk (Kd.R_below H_bx.out hb_); replace H_wh := Aside0.mk (Kd.R_below H_wh.out hb_); replace HB := Aside0.mk (below_step HB.out hb_); have H_rb := Aside0.mk (Kd.R_lower ho_ (below_size HB0_.out)); clear ho_ hb_; obtain ⟨A_rb, c_rb, e_rb⟩ := Kd.R_slice H_rb.out; subst e_rb; have hcv1 := own_string (P := Try.prog) Try.underlying22 Try.underlying5 Try.underlying9 (Kd.own_of_R H_bx.out); have hcv2 := own_string (P := Try.prog) Try.underlying22 Try.underlying5 Try.underlying9 (Kd.own_of_R H_rb.out); clear HB0_) | ((with_reducible refine gate_callee (f := 28) rfl ?_); (with_reducible refine gate_dst (N := 52) rfl ?_); (try (refine gate_guard (by rfl) ?_; dsimp only)); refine goesL_ (some 52) rfl rfl Try.func28 (by kernel_rfl) rfl #[.iface 49 (.int .i64 er)] rfl (by (try simp only [List.map_toArray, List.map_cons, List.map_nil]); first | done | rfl) ?_; (refine (palimpsestnum_Num.calls (some er) erc _ A4.out).mono ?_); rintro e w_nm ⟨rfl, ⟨⟨nm_, rfl⟩⟩⟩; refine ⟨_, rfl, ?_⟩; have HB0_ := HB; replace CA := Aside0.mk (Kd.C_below CA.out (pw_below_drewN (Below.refl _ _) nm_)); replace CB := Aside0.mk (Kd.C_below CB.out (pw_below_drewN (Below.refl _ _) nm_)); replace H_x := Aside0.mk (Kd.R_below H_x.out (pw_below_drewN (Below.refl _ _) nm_)); replace H_z := Aside0.mk (Kd.R_below H_z.out (pw_below_drewN (Below.refl _ _) nm_)); replace H_bx := Aside0.mk (Kd.R_below H_bx.out (pw_below_drewN (Below.refl _ _) nm_)); replace HB := Aside0.mk (below_step HB.out (pw_below_drewN (Below.refl _ _) nm_)); clear hcv1 hcv2; clear HB0_) | ((with_reducible refine gate_callee (f := 23) rfl ?_); (with_reducible refine gate_dst (N := 59) rfl ?_); (try (refine gate_guard (by rfl) ?_; dsimp only)); refine goesL_ (some 59) rfl rfl Try.func23 (by kernel_rfl) rfl #[.slice A_x la.length c_x, .slice A la.length ca] rfl (by (try simp only [List.map_toArray, List.map_cons, List.map_nil]); first | done | rfl) ?_; (refine (kept_calls A_x A c_x ca _ la _ H_x.out L_x.out CA.out LA.out (by have := LL.out; omega) (R_room H_x.out)).mono ?_); rintro e w_k1 ⟨rfl, hb_⟩; refine ⟨_, rfl, ?_⟩; have HB0_ := HB; replace CA := Aside0.mk (Kd.C_below CA.out hb_); replace CB := Aside0.mk (Kd.C_below CB.out hb_); replace H_x := Aside0.mk (Kd.R_below H_x.out hb_); replace H_z := Aside0.mk (Kd.R_below H_z.out hb_); replace H_bx := Aside0.mk (Kd.R_below H_bx.out hb_); replace HB := Aside0.mk (below_step HB.out hb_); clear hb_; clear HB0_) | ((with_reducible refine gate_callee (f := 23) rfl ?_); (with_reducible refine gate_dst (N := 65) rfl ?_); (try (refine gate_guard (by rfl) ?_; dsimp only)); refine goesL_ (some 65) rfl rfl Try.func23 (by kernel_rfl) rfl #[.slice A_z lb.length c_z, .slice B lb.length cb] rfl (by (try simp only [List.map_toArray, List.map_cons, List.map_nil]); first | done | rfl) ?_; (refine (kept_calls A_z B c_z cb _ lb _ H_z.out L_z.out CB.out LB.out (by have := LL.out; omega) (R_room H_z.out)).mono ?_); rintro e w_k2 ⟨rfl, hb_⟩; refine ⟨_, rfl, ?_⟩; have HB0_ := HB; replace CA := Aside0.mk (Kd.C_below CA.out hb_); replace CB := Aside0.mk (Kd.C_below CB.out hb_); replace H_x := Aside0.mk (Kd.R_below H_x.out hb_); replace H_z := Aside0.mk (Kd.R_below H_z.out hb_); replace H_bx := Aside0.mk (Kd.R_below H_bx.out hb_); replace HB := Aside0.mk (below_step HB.out hb_); clear hb_; clear HB0_) | ((with_reducible refine gate_callee (f := 29) rfl ?_); (with_reducible refine gate_dst (N := 70) rfl ?_); (try (refine gate_guard (by rfl) ?_; dsimp only)); refine goesL_ (some 70) rfl rfl Try.func29 (by kernel_rfl) rfl #[.slice A_x la.length c_x] rfl (by (try simp only [List.map_toArray, List.map_cons, List.map_nil]); first | done | rfl) ?_; (refine (wire_Unbox.calls K5 _ _ la inA none _ ?side1 ?side2 A5.out).mono ?_); (case side1 => exact full_C H_x.out); (case side2 => exact (by have := L_x.out; omega)); rintro e w_in ⟨v_in, rfl, ho_, hb_⟩; refine ⟨_, rfl, ?_⟩; have HB0_ := HB; replace CA := Aside0.mk (Kd.C_below CA.out hb_); replace CB := Aside0.mk (Kd.C_below CB.out hb_); replace H_x := Aside0.mk (Kd.R_below H_x.out hb_); replace H_z := Aside0.mk (Kd.R_below H_z.out hb_); replace H_bx := Aside0.mk (Kd.R_below H_bx.out hb_); replace HB := Aside0.mk (below_step HB.out hb_); have H_in := Aside0.mk (Kd.R_lower ho_ (below_size HB0_.out)); clear ho_ hb_; obtain ⟨A_in, c_in, e_in⟩ := Kd.R_slice H_in.out; subst e_in; (try simp only [errW_none, errW_some]); clear HB0_) | ((with_reducible refine gate_callee (f := 30) rfl ?_); (with_reducible refine gate_dst (N := 75) rfl ?_); (try (refine gate_guard (by rfl) ?_; dsimp only)); refine goesL_ (some 75) rfl rfl Try.func30 (by kernel_rfl) rfl #[.slice A la.length ca] rfl (by (try simp only [List.map_toArray, List.map_cons, List.map_nil]); first | done | rfl) ?_; (refine (palimpsestref02_Unbox.calls K6 _ _ la inA true _ ?side1 ?side2 A6.out).mono ?_); (case side1 => exact CA.out); (case side2 => exact LA.out); rintro e w_ru ⟨v_ru, rfl, ho_, hb_⟩; refine ⟨_, rfl, ?_⟩; have HB0_ := HB; replace CA := Aside0.mk (Kd.C_below CA.out hb_); replace CB := Aside0.mk (Kd.C_below CB.out hb_); replace H_x := Aside0.mk (Kd.R_below H_x.out hb_); replace H_z := Aside0.mk (Kd.R_below H_z.out hb_); replace H_bx := Aside0.mk (Kd.R_below H_bx.out hb_); replace H_in := Aside0.mk (Kd.R_below H_in.out hb_); replace HB := Aside0.mk (below_step HB.out hb_); have H_ru := Aside0.mk (Kd.R_lower ho_ (below_size HB0_.out)); clear ho_ hb_; obtain ⟨A_ru, c_ru, e_ru⟩ := Kd.R_slice H_ru.out; subst e_ru; have hcv3 := own_string (P := Try.prog) Try.underlying22 Try.underlying5 Try.underlying9 (Kd.own_of_R H_in.out); have hcv4 := own_string (P := Try.prog) Try.underlying22 Try.underlying5 Try.underlying9 (Kd.own_of_R H_ru.out); clear HB0_))
  go_ret
  exact ⟨rfl, HB.out⟩
set_option maxHeartbeats 8000000 in
set_option maxRecDepth 100000 in
theorem boxes_b (size : Int) (A B : Option Addr) (ca cb : Nat) (la lb : List Int) (w : World) (hA : Kd.C (Kd.int .u8) w A la.length la) (hB : Kd.C (Kd.int .u8) w B lb.length lb) (hca : la.length ≤ ca) (hcb : lb.length ≤ cb) (K1 K2 K3 K5 K6 : Nat)
    (h1 : palimpsestlaw02_large.f K1 [la, lb] = some false) (hll : la.length + lb.length ≤ 131072) (bx inA : List Int) (er erc : Int) (h2 : wire_Box.f K2 size [la, lb] = some (bx, (some er))) (h3 : palimpsestref02_Box.f K3 size (la ++ lb) = some (bx, erc)) (h4 : palimpsestnum_Num.f (some er) = some erc) (h5 : wire_Unbox.f K5 la = some (inA, (some 4))) (h6 : palimpsestref02_Unbox.f K6 la = some (inA, false)) :
    Calls Try.prog 5 #[.int .i64 size, .slice A la.length ca, .slice B lb.length cb] w fun e w' => e = .returned (.bool true) ∧ Below w.heap.size w w' := by
  have CA := Aside0.mk hA
  have CB := Aside0.mk hB
  have LA := Aside0.mk hca
  have LB := Aside0.mk hcb
  have HB := Aside0.mk (Below.refl w.heap.size w)
  have heq := eql49
  have hneq := neq49
  obtain ⟨y, hy⟩ : ∃ y, y = [la, lb] := ⟨_, rfl⟩
  obtain ⟨wh, hwh⟩ : ∃ wh, wh = la ++ lb := ⟨_, rfl⟩
  have A1 := Aside0.mk (show palimpsestlaw02_large.f K1 y = some false by rw [hy]; exact h1)
  have A2 := Aside0.mk (show wire_Box.f K2 size y = some (bx, (some er)) by rw [hy]; exact h2)
  have A3 := Aside0.mk (show palimpsestref02_Box.f K3 size wh = some (bx, erc) by rw [hwh]; exact h3)
  have A4 := Aside0.mk h4
  have A5 := Aside0.mk h5
  have A6 := Aside0.mk h6
  have Ny := Aside0.mk hy
  have Nwh := Aside0.mk hwh
  have LL := Aside0.mk hll
  clear hA hB hca hcb hy h1 h2 h3 h4 h5 h6 hll hwh
  go_enter Try.func5, Try.ntmps5
  go_wp2_with (first | ((with_reducible refine gate_callee (f := 16) rfl ?_); (with_reducible refine gate_dst (N := 17) rfl ?_); (try (refine gate_guard (by rfl) ?_; dsimp only)); refine goesL_ (some 17) rfl rfl Try.func16 (by kernel_rfl) rfl #[] rfl (by (try simp only [List.map_toArray, List.map_cons, List.map_nil]); first | done | rfl) ?_; (refine (alive_calls _).mono ?_); rintro e w_al ⟨rfl, hb_⟩; refine ⟨_, rfl, ?_⟩; have HB0_ := HB; replace CA := Aside0.mk (Kd.C_below CA.out hb_); replace CB := Aside0.mk (Kd.C_below CB.out hb_); replace HB := Aside0.mk (below_step HB.out hb_); clear hb_; clear HB0_) | ((with_reducible refine gate_dst (N := 21) rfl ?_); (try (refine gate_guard (by rfl) ?_; dsimp only)); refine C_lit (Kd.slice 5 (Kd.int .u8)) 22 ?hg (N := 21) ?hd (xs := [la, lb]) (inner := [.slice A la.length ca, .slice B lb.length cb]) ?hr ?hp (by simp) ?_; (case hd => rfl); (case hg => rfl); (case hr => first | (go_simp; done) | (go_simp; rfl)); (case hp => exact (Reps.one ⟨_, _, rfl, LA.out, CA.out⟩ (Reps.one ⟨_, _, rfl, LB.out, CB.out⟩ (Reps.none _ _)))); intro w_y A_y c_y hc_ l_y hb_; rw [← Ny.out] at hc_ l_y ⊢; replace CA := Aside0.mk (Kd.C_below CA.out hb_); replace CB := Aside0.mk (Kd.C_below CB.out hb_); replace HB := Aside0.mk (below_step HB.out hb_); have C_y := Aside0.mk hc_; have L_y := Aside0.mk l_y; clear hc_ hb_ l_y) | ((with_reducible refine gate_callee (f := 17) rfl ?_); (with_reducible refine gate_dst (N := 22) rfl ?_); (try (refine gate_guard (by rfl) ?_; dsimp only)); refine goesL_ (some 22) rfl rfl Try.func17 (by kernel_rfl) rfl #[.slice A_y y.length c_y] rfl (by (try simp only [List.map_toArray, List.map_cons, List.map_nil]); first | done | rfl) ?_; (refine (palimpsestlaw02_large.calls K1 _ _ y false _ ?side1 ?side2 A1.out).mono ?_); (case side1 => exact C_y.out); (case side2 => exact L_y.out); rintro e w_lg ⟨rfl, ⟨⟨nd_, rfl⟩⟩⟩; refine ⟨_, rfl, ?_⟩; have HB0_ := HB; replace CA := Aside0.mk (Kd.C_below CA.out (pw_below_drewN (Below.refl _ _) nd_)); replace CB := Aside0.mk (Kd.C_below CB.out (pw_below_drewN (Below.refl _ _) nd_)); replace C_y := Aside0.mk (Kd.C_below C_y.out (pw_below_drewN (Below.refl _ _) nd_)); replace HB := Aside0.mk (below_step HB.out (pw_below_drewN (Below.refl _ _) nd_)); clear HB0_) | ((with_reducible refine gate_callee (f := 18) rfl ?_); (with_reducible refine gate_dst (N := 24) rfl ?_); (try (refine gate_guard (by rfl) ?_; dsimp only)); refine goesL_ (some 24) rfl rfl Try.func18 (by kernel_rfl) rfl #[.slice A la.length ca] rfl (by (try simp only [List.map_toArray, List.map_cons, List.map_nil]); first | done | rfl) ?_; (refine (copy_calls A ca la _ CA.out LA.out (by have := LL.out; omega)).mono ?_); rintro e w_x ⟨A_x, c_x, rfl, ho_, hcc_, hb_⟩; refine ⟨_, rfl, ?_⟩; have HB0_ := HB; replace CA := Aside0.mk (Kd.C_below CA.out hb_); replace CB := Aside0.mk (Kd.C_below CB.out hb_); replace HB := Aside0.mk (below_step HB.out hb_); have H_x := Aside0.mk (Kd.R_lower ho_ (below_size HB0_.out)); have L_x := Aside0.mk hcc_; clear ho_ hcc_ hb_; clear HB0_) | ((with_reducible refine gate_callee (f := 18) rfl ?_); (with_reducible refine gate_dst (N := 26) rfl ?_); (try (refine gate_guard (by rfl) ?_; dsimp only)); refine goesL_ (some 26) rfl rfl Try.func18 (by kernel_rfl) rfl #[.slice B lb.length cb] rfl (by (try simp only [List.map_toArray, List.map_cons, List.map_nil]); first | done | rfl) ?_; (refine (copy_calls B cb lb _ CB.out LB.out (by have := LL.out; omega)).mono ?_); rintro e w_z ⟨A_z, c_z, rfl, ho_, hcc_, hb_⟩; refine ⟨_, rfl, ?_⟩; have HB0_ := HB; replace CA := Aside0.mk (Kd.C_below CA.out hb_); replace CB := Aside0.mk (Kd.C_below CB.out hb_); replace H_x := Aside0.mk (Kd.R_below H_x.out hb_); replace HB := Aside0.mk (below_step HB.out hb_); have H_z := Aside0.mk (Kd.R_lower ho_ (below_size HB0_.out)); have L_z := Aside0.mk hcc_; clear ho_ hcc_ hb_; clear HB0_) | ((with_reducible refine gate_dst (N := 31) rfl ?_); (try (refine gate_guard (by rfl) ?_; dsimp only)); refine C_lit (Kd.slice 5 (Kd.int .u8)) 22 ?hg (N := 31) ?hd (xs := [la, lb]) (inner := [.slice A_x la.length c_x, .slice A_z lb.length c_z]) ?hr ?hp (by simp) ?_; (case hd => rfl); (case hg => rfl); (case hr => first | (go_simp; done) | (go_simp; rfl)); (case hp => exact (Reps.one ⟨_, _, rfl, (by have := L_x.out; omega), (full_C H_x.out)⟩ (Reps.one ⟨_, _, rfl, (by have := L_z.out; omega), (full_C H_z.out)⟩ (Reps.none _ _)))); intro w_y2 A_y2 c_y2 hc_ l_y2 hb_; rw [← Ny.out] at hc_ l_y2 ⊢; replace CA := Aside0.mk (Kd.C_below CA.out hb_); replace CB := Aside0.mk (Kd.C_below CB.out hb_); replace H_x := Aside0.mk (Kd.R_below H_x.out hb_); replace H_z := Aside0.mk (Kd.R_below H_z.out hb_); replace HB := Aside0.mk (below_step HB.out hb_); have C_y2 := Aside0.mk hc_; have L_y2 := Aside0.mk l_y2; clear hc_ hb_ l_y2) | ((with_reducible refine gate_callee (f := 26) rfl ?_); (with_reducible refine gate_dst (N := 32) rfl ?_); (try (refine gate_guard (by rfl) ?_; dsimp only)); refine goesL_ (some 32) rfl rfl Try.func26 (by kernel_rfl) rfl #[.int .i64 size, .slice A_y2 y.length c_y2] rfl (by (try simp only [List.map_toArray, List.map_cons, List.map_nil]); first | done | rfl) ?_; (refine (wire_Box.calls K2 size _ _ y bx (some er) _ ?side1 ?side2 A2.out).mono ?_); (case side1 => exact C_y2.out); (case side2 => exact L_y2.out); rintro e w_bx ⟨v_bx, rfl, ho_, hb_⟩; refine ⟨_, rfl, ?_⟩; have HB0_ := HB; replace CA := Aside0.mk (Kd.C_below CA.out hb_); replace CB := Aside0.mk (Kd.C_below CB.out hb_); replace H_x := Aside0.mk (Kd.R_below H_x.out hb_); replace H_z := Aside0.mk (Kd.R_below H_z.out hb_); replace C_y2 := Aside0.mk (Kd.C_below C_y2.out hb_); replace HB := Aside0.mk (below_step HB.out hb_); have H_bx := Aside0.mk (Kd.R_lower ho_ (below_size HB0_.out)); clear ho_ hb_; obtain ⟨A_bx, c_bx, e_bx⟩ := Kd.R_slice H_bx.out; subst e_bx; (try simp only [errW_none, errW_some]); clear HB0_) | ((with_reducible refine gate_dst (N := 37) rfl ?_); (try (refine gate_guard (by rfl) ?_; dsimp only)); refine Kd.R_lit (w0 := w_bx) (Kd.int .u8) w_bx.heap.size 5 ?hg (N := 37) ?hd (xs := []) (inner := []) (ok := fun _ => True) (okp := fun _ => True) ?hr ?hp (fun _ hk => hk) trivial (Below.refl _ _) (Nat.le_refl _) (by simp) ?_; (case hd => rfl); (case hg => rfl); (case hr => first | (go_simp; done) | (go_simp; rfl)); (case hp => exact (Reps.none _ _)); intro v_o w_o ho_ hb_ hg_ hnew_; have HOWN := Aside0.mk ho_; have HOB := Aside0.mk hb_; clear ho_ hb_ hg_ hnew_) | ((with_reducible refine gate_builtin (b := .append) (xs := #[.tmp 37, .tmp 38]) rfl ?_); at_builtin; refine Kd.R_append_rows (Kd.int .u8) (w0 := w_bx) w_bx.heap.size rfl (.tmp 37) (.tmp 38) 22 5 (.int .u8 0) 1 rfl Try.underlying22 info5 rfl (by decide) (by omega) v_o [] la _ _ _ (fun _ => True) (fun _ => False) rfl rfl ?aO ?aR (fun _ _ h => h) (fun _ h => h.elim) ?aF ?aB ?aS ?aL ?_; (case aR => exact Kd.C_below CA.out HOB.out); (case aB => exact HOB.out); (case aF => exact (fun _ _ => trivial)); (case aO => exact HOWN.out); (case aS => exact below_size HOB.out); (case aL => have := LL.out; simp; omega); intro v_oa w_oa ho_ hb_ hg_ hat_; rw [List.nil_append] at ho_; replace HOWN := Aside0.mk ho_; replace HOB := Aside0.mk hb_; clear ho_ hb_ hg_ hat_) | ((with_reducible refine gate_builtin (b := .append) (xs := #[.tmp 39, .tmp 40]) rfl ?_); at_builtin; refine Kd.R_append_rows (Kd.int .u8) (w0 := w_bx) w_bx.heap.size rfl (.tmp 39) (.tmp 40) 22 5 (.int .u8 0) 1 rfl Try.underlying22 info5 rfl (by decide) (by omega) v_oa la lb _ _ _ (fun _ => True) (fun _ => False) rfl rfl ?aO ?aR (fun _ _ h => h) (fun _ h => h.elim) ?aF ?aB ?aS ?aL ?_; (case aR => exact Kd.C_below CB.out HOB.out); (case aB => exact HOB.out); (case aF => exact (fun _ _ => trivial)); (case aO => exact HOWN.out); (case aS => exact below_size HOB.out); (case aL => have := LL.out; omega); intro v_ob w_ob ho_ hb_ hg_ hat_; rw [← Nwh.out] at ho_; replace HOWN := Aside0.mk ho_; replace HOB := Aside0.mk hb_; clear ho_ hb_ hg_ hat_; have HB0_ := HB; replace CA := Aside0.mk (Kd.C_below CA.out HOB.out); replace CB := Aside0.mk (Kd.C_below CB.out HOB.out); replace H_x := Aside0.mk (Kd.R_below H_x.out HOB.out); replace H_z := Aside0.mk (Kd.R_below H_z.out HOB.out); replace H_bx := Aside0.mk (Kd.R_below H_bx.out HOB.out); replace HB := Aside0.mk (below_step HB.out HOB.out); have H_wh := Aside0.mk (Kd.R_lower HOWN.out (below_size HB0_.out)); clear HOWN HOB HB0_; obtain ⟨A_wh, c_wh, e_wh⟩ := Kd.R_slice H_wh.out; subst e_wh) | ((with_reducible refine gate_callee (f := 27) rfl ?_); (with_reducible refine gate_dst (N := 42) rfl ?_); (try (refine gate_guard (by rfl) ?_; dsimp only)); refine goesL_ (some 42) rfl rfl Try.func27 (by kernel_rfl) rfl #[.int .i64 size, .slice A_wh wh.length c_wh] rfl (by (try simp only [List.map_toArray, List.map_cons, List.map_nil]); first | done | rfl) ?_; (refine (palimpsestref02_Box.calls K3 size _ _ wh bx erc _ ?side1 ?side2 A3.out).mono ?_); (case side1 => exact (Kd.R_reads' H_wh.out).2.2); (case side2 => exact (Kd.R_reads' H_wh.out).2.1); rintro e w_rb ⟨v_rb, rfl, ho_, hb_⟩; refine ⟨_, rfl, ?_⟩; have HB0_ := HB; replace CA := Aside0.mk (Kd.C_below CA.out hb_); replace CB := Aside0.mk (Kd.C_below CB.out hb_); replace H_x := Aside0.mk (Kd.R_below H_x.out hb_); replace H_z := Aside0.mk (Kd.R_below H_z.out hb_); replace H_bx := Aside0.mk (Kd.R_below H_bx.out hb_); replace H_wh := Aside0.mk (Kd.R_below H_wh.out hb_); replace HB := Aside0.mk (below_step HB.out hb_); have H_rb := Aside0.mk (Kd.R_lower ho_ (below_size HB0_.out)); clear ho_ hb_; obtain ⟨A_rb, c_rb, e_rb⟩ := Kd.R_slice H_rb.out; subst e_rb; have hcv1 := own_string (P := Try.prog) Try.underlying22 Try.underlying5 Try.underlying9 (Kd.own_of_R H_bx.out); have hcv2 := own_string (P := Try.prog) Try.underlying22 Try.underlying5 Try.underlying9 (Kd.own_of_R H_rb.out); clear HB0_) | ((with_reducible refine gate_callee (f := 28) rfl ?_); (with_reducible refine gate_dst (N := 52) rfl ?_); (try (refine gate_guard (by rfl) ?_; dsimp only)); refine goesL_ (some 52) rfl rfl Try.func28 (by kernel_rfl) rfl #[.iface 49 (.int .i64 er)] rfl (by (try simp only [List.map_toArray, List.map_cons, List.map_nil]); first | done | rfl) ?_; (refine (palimpsestnum_Num.calls (some er) erc _ A4.out).mono ?_); rintro e w_nm ⟨rfl, ⟨⟨nm_, rfl⟩⟩⟩; refine ⟨_, rfl, ?_⟩; have HB0_ := HB; replace CA := Aside0.mk (Kd.C_below CA.out (pw_below_drewN (Below.refl _ _) nm_)); replace CB := Aside0.mk (Kd.C_below CB.out (pw_below_drewN (Below.refl _ _) nm_)); replace H_x := Aside0.mk (Kd.R_below H_x.out (pw_below_drewN (Below.refl _ _) nm_)); replace H_z := Aside0.mk (Kd.R_below H_z.out (pw_below_drewN (Below.refl _ _) nm_)); replace H_bx := Aside0.mk (Kd.R_below H_bx.out (pw_below_drewN (Below.refl _ _) nm_)); replace HB := Aside0.mk (below_step HB.out (pw_below_drewN (Below.refl _ _) nm_)); clear hcv1 hcv2; clear HB0_) | ((with_reducible refine gate_callee (f := 23) rfl ?_); (with_reducible refine gate_dst (N := 59) rfl ?_); (try (refine gate_guard (by rfl) ?_; dsimp only)); refine goesL_ (some 59) rfl rfl Try.func23 (by kernel_rfl) rfl #[.slice A_x la.length c_x, .slice A la.length ca] rfl (by (try simp only [List.map_toArray, List.map_cons, List.map_nil]); first | done | rfl) ?_; (refine (kept_calls A_x A c_x ca _ la _ H_x.out L_x.out CA.out LA.out (by have := LL.out; omega) (R_room H_x.out)).mono ?_); rintro e w_k1 ⟨rfl, hb_⟩; refine ⟨_, rfl, ?_⟩; have HB0_ := HB; replace CA := Aside0.mk (Kd.C_below CA.out hb_); replace CB := Aside0.mk (Kd.C_below CB.out hb_); replace H_x := Aside0.mk (Kd.R_below H_x.out hb_); replace H_z := Aside0.mk (Kd.R_below H_z.out hb_); replace H_bx := Aside0.mk (Kd.R_below H_bx.out hb_); replace HB := Aside0.mk (below_step HB.out hb_); clear hb_; clear HB0_) | ((with_reducible refine gate_callee (f := 23) rfl ?_); (with_reducible refine gate_dst (N := 65) rfl ?_); (try (refine gate_guard (by rfl) ?_; dsimp only)); refine goesL_ (some 65) rfl rfl Try.func23 (by kernel_rfl) rfl #[.slice A_z lb.length c_z, .slice B lb.length cb] rfl (by (try simp only [List.map_toArray, List.map_cons, List.map_nil]); first | done | rfl) ?_; (refine (kept_calls A_z B c_z cb _ lb _ H_z.out L_z.out CB.out LB.out (by have := LL.out; omega) (R_room H_z.out)).mono ?_); rintro e w_k2 ⟨rfl, hb_⟩; refine ⟨_, rfl, ?_⟩; have HB0_ := HB; replace CA := Aside0.mk (Kd.C_below CA.out hb_); replace CB := Aside0.mk (Kd.C_below CB.out hb_); replace H_x := Aside0.mk (Kd.R_below H_x.out hb_); replace H_z := Aside0.mk (Kd.R_below H_z.out hb_); replace H_bx := Aside0.mk (Kd.R_below H_bx.out hb_); replace HB := Aside0.mk (below_step HB.out hb_); clear hb_; clear HB0_) | ((with_reducible refine gate_callee (f := 29) rfl ?_); (with_reducible refine gate_dst (N := 70) rfl ?_); (try (refine gate_guard (by rfl) ?_; dsimp only)); refine goesL_ (some 70) rfl rfl Try.func29 (by kernel_rfl) rfl #[.slice A_x la.length c_x] rfl (by (try simp only [List.map_toArray, List.map_cons, List.map_nil]); first | done | rfl) ?_; (refine (wire_Unbox.calls K5 _ _ la inA (some 4) _ ?side1 ?side2 A5.out).mono ?_); (case side1 => exact full_C H_x.out); (case side2 => exact (by have := L_x.out; omega)); rintro e w_in ⟨v_in, rfl, ho_, hb_⟩; refine ⟨_, rfl, ?_⟩; have HB0_ := HB; replace CA := Aside0.mk (Kd.C_below CA.out hb_); replace CB := Aside0.mk (Kd.C_below CB.out hb_); replace H_x := Aside0.mk (Kd.R_below H_x.out hb_); replace H_z := Aside0.mk (Kd.R_below H_z.out hb_); replace H_bx := Aside0.mk (Kd.R_below H_bx.out hb_); replace HB := Aside0.mk (below_step HB.out hb_); have H_in := Aside0.mk (Kd.R_lower ho_ (below_size HB0_.out)); clear ho_ hb_; obtain ⟨A_in, c_in, e_in⟩ := Kd.R_slice H_in.out; subst e_in; (try simp only [errW_none, errW_some]); clear HB0_) | ((with_reducible refine gate_callee (f := 30) rfl ?_); (with_reducible refine gate_dst (N := 75) rfl ?_); (try (refine gate_guard (by rfl) ?_; dsimp only)); refine goesL_ (some 75) rfl rfl Try.func30 (by kernel_rfl) rfl #[.slice A la.length ca] rfl (by (try simp only [List.map_toArray, List.map_cons, List.map_nil]); first | done | rfl) ?_; (refine (palimpsestref02_Unbox.calls K6 _ _ la inA false _ ?side1 ?side2 A6.out).mono ?_); (case side1 => exact CA.out); (case side2 => exact LA.out); rintro e w_ru ⟨v_ru, rfl, ho_, hb_⟩; refine ⟨_, rfl, ?_⟩; have HB0_ := HB; replace CA := Aside0.mk (Kd.C_below CA.out hb_); replace CB := Aside0.mk (Kd.C_below CB.out hb_); replace H_x := Aside0.mk (Kd.R_below H_x.out hb_); replace H_z := Aside0.mk (Kd.R_below H_z.out hb_); replace H_bx := Aside0.mk (Kd.R_below H_bx.out hb_); replace H_in := Aside0.mk (Kd.R_below H_in.out hb_); replace HB := Aside0.mk (below_step HB.out hb_); have H_ru := Aside0.mk (Kd.R_lower ho_ (below_size HB0_.out)); clear ho_ hb_; obtain ⟨A_ru, c_ru, e_ru⟩ := Kd.R_slice H_ru.out; subst e_ru; have hcv3 := own_string (P := Try.prog) Try.underlying22 Try.underlying5 Try.underlying9 (Kd.own_of_R H_in.out); have hcv4 := own_string (P := Try.prog) Try.underlying22 Try.underlying5 Try.underlying9 (Kd.own_of_R H_ru.out); clear HB0_))
  go_ret
  exact ⟨rfl, HB.out⟩
set_option maxHeartbeats 8000000 in
set_option maxRecDepth 100000 in
theorem boxes_c (size : Int) (A B : Option Addr) (ca cb : Nat) (la lb : List Int) (w : World) (hA : Kd.C (Kd.int .u8) w A la.length la) (hB : Kd.C (Kd.int .u8) w B lb.length lb) (hca : la.length ≤ ca) (hcb : lb.length ≤ cb) (K1 K2 K3 K5 K6 K7 : Nat)
    (h1 : palimpsestlaw02_large.f K1 [la, lb] = some false) (hll : la.length + lb.length ≤ 131072) (bx inA : List Int) (er erc : Int) (h2 : wire_Box.f K2 size [la, lb] = some (bx, none)) (h3 : palimpsestref02_Box.f K3 size (la ++ lb) = some (bx, erc)) (h4 : palimpsestnum_Num.f none = some erc) (h5 : wire_Unbox.f K5 la = some (inA, none)) (h6 : palimpsestref02_Unbox.f K6 la = some (inA, true)) (h7 : wire_Unbox.f K7 bx = some (la ++ lb, none)) :
    Calls Try.prog 5 #[.int .i64 size, .slice A la.length ca, .slice B lb.length cb] w fun e w' => e = .returned (.bool true) ∧ Below w.heap.size w w' := by
  have CA := Aside0.mk hA
  have CB := Aside0.mk hB
  have LA := Aside0.mk hca
  have LB := Aside0.mk hcb
  have HB := Aside0.mk (Below.refl w.heap.size w)
  have heq := eql49
  have hneq := neq49
  obtain ⟨y, hy⟩ : ∃ y, y = [la, lb] := ⟨_, rfl⟩
  obtain ⟨wh, hwh⟩ : ∃ wh, wh = la ++ lb := ⟨_, rfl⟩
  have A1 := Aside0.mk (show palimpsestlaw02_large.f K1 y = some false by rw [hy]; exact h1)
  have A2 := Aside0.mk (show wire_Box.f K2 size y = some (bx, none) by rw [hy]; exact h2)
  have A3 := Aside0.mk (show palimpsestref02_Box.f K3 size wh = some (bx, erc) by rw [hwh]; exact h3)
  have A4 := Aside0.mk h4
  have A5 := Aside0.mk h5
  have A6 := Aside0.mk h6
  have A7 := Aside0.mk (show wire_Unbox.f K7 bx = some (wh, none) by rw [hwh]; exact h7)
  have hst : strOfNums la ++ strOfNums lb = strOfNums wh := by rw [hwh]; exact (str_append la lb).symm
  have hsz : (strOfNums la).size + (strOfNums lb).size ≤ 9223372036854775807 := by rw [strOfNums_size, strOfNums_size]; omega
  clear h7
  have Ny := Aside0.mk hy
  have Nwh := Aside0.mk hwh
  have LL := Aside0.mk hll
  clear hA hB hca hcb hy h1 h2 h3 h4 h5 h6 hll hwh
  go_enter Try.func5, Try.ntmps5
  go_wp2_with (first | ((with_reducible refine gate_callee (f := 16) rfl ?_); (with_reducible refine gate_dst (N := 17) rfl ?_); (try (refine gate_guard (by rfl) ?_; dsimp only)); refine goesL_ (some 17) rfl rfl Try.func16 (by kernel_rfl) rfl #[] rfl (by (try simp only [List.map_toArray, List.map_cons, List.map_nil]); first | done | rfl) ?_; (refine (alive_calls _).mono ?_); rintro e w_al ⟨rfl, hb_⟩; refine ⟨_, rfl, ?_⟩; have HB0_ := HB; replace CA := Aside0.mk (Kd.C_below CA.out hb_); replace CB := Aside0.mk (Kd.C_below CB.out hb_); replace HB := Aside0.mk (below_step HB.out hb_); clear hb_; clear HB0_) | ((with_reducible refine gate_dst (N := 21) rfl ?_); (try (refine gate_guard (by rfl) ?_; dsimp only)); refine C_lit (Kd.slice 5 (Kd.int .u8)) 22 ?hg (N := 21) ?hd (xs := [la, lb]) (inner := [.slice A la.length ca, .slice B lb.length cb]) ?hr ?hp (by simp) ?_; (case hd => rfl); (case hg => rfl); (case hr => first | (go_simp; done) | (go_simp; rfl)); (case hp => exact (Reps.one ⟨_, _, rfl, LA.out, CA.out⟩ (Reps.one ⟨_, _, rfl, LB.out, CB.out⟩ (Reps.none _ _)))); intro w_y A_y c_y hc_ l_y hb_; rw [← Ny.out] at hc_ l_y ⊢; replace CA := Aside0.mk (Kd.C_below CA.out hb_); replace CB := Aside0.mk (Kd.C_below CB.out hb_); replace HB := Aside0.mk (below_step HB.out hb_); have C_y := Aside0.mk hc_; have L_y := Aside0.mk l_y; clear hc_ hb_ l_y) | ((with_reducible refine gate_callee (f := 17) rfl ?_); (with_reducible refine gate_dst (N := 22) rfl ?_); (try (refine gate_guard (by rfl) ?_; dsimp only)); refine goesL_ (some 22) rfl rfl Try.func17 (by kernel_rfl) rfl #[.slice A_y y.length c_y] rfl (by (try simp only [List.map_toArray, List.map_cons, List.map_nil]); first | done | rfl) ?_; (refine (palimpsestlaw02_large.calls K1 _ _ y false _ ?side1 ?side2 A1.out).mono ?_); (case side1 => exact C_y.out); (case side2 => exact L_y.out); rintro e w_lg ⟨rfl, ⟨⟨nd_, rfl⟩⟩⟩; refine ⟨_, rfl, ?_⟩; have HB0_ := HB; replace CA := Aside0.mk (Kd.C_below CA.out (pw_below_drewN (Below.refl _ _) nd_)); replace CB := Aside0.mk (Kd.C_below CB.out (pw_below_drewN (Below.refl _ _) nd_)); replace C_y := Aside0.mk (Kd.C_below C_y.out (pw_below_drewN (Below.refl _ _) nd_)); replace HB := Aside0.mk (below_step HB.out (pw_below_drewN (Below.refl _ _) nd_)); clear HB0_) | ((with_reducible refine gate_callee (f := 18) rfl ?_); (with_reducible refine gate_dst (N := 24) rfl ?_); (try (refine gate_guard (by rfl) ?_; dsimp only)); refine goesL_ (some 24) rfl rfl Try.func18 (by kernel_rfl) rfl #[.slice A la.length ca] rfl (by (try simp only [List.map_toArray, List.map_cons, List.map_nil]); first | done | rfl) ?_; (refine (copy_calls A ca la _ CA.out LA.out (by have := LL.out; omega)).mono ?_); rintro e w_x ⟨A_x, c_x, rfl, ho_, hcc_, hb_⟩; refine ⟨_, rfl, ?_⟩; have HB0_ := HB; replace CA := Aside0.mk (Kd.C_below CA.out hb_); replace CB := Aside0.mk (Kd.C_below CB.out hb_); replace HB := Aside0.mk (below_step HB.out hb_); have H_x := Aside0.mk (Kd.R_lower ho_ (below_size HB0_.out)); have L_x := Aside0.mk hcc_; clear ho_ hcc_ hb_; clear HB0_) | ((with_reducible refine gate_callee (f := 18) rfl ?_); (with_reducible refine gate_dst (N := 26) rfl ?_); (try (refine gate_guard (by rfl) ?_; dsimp only)); refine goesL_ (some 26) rfl rfl Try.func18 (by kernel_rfl) rfl #[.slice B lb.length cb] rfl (by (try simp only [List.map_toArray, List.map_cons, List.map_nil]); first | done | rfl) ?_; (refine (copy_calls B cb lb _ CB.out LB.out (by have := LL.out; omega)).mono ?_); rintro e w_z ⟨A_z, c_z, rfl, ho_, hcc_, hb_⟩; refine ⟨_, rfl, ?_⟩; have HB0_ := HB; replace CA := Aside0.mk (Kd.C_below CA.out hb_); replace CB := Aside0.mk (Kd.C_below CB.out hb_); replace H_x := Aside0.mk (Kd.R_below H_x.out hb_); replace HB := Aside0.mk (below_step HB.out hb_); have H_z := Aside0.mk (Kd.R_lower ho_ (below_size HB0_.out)); have L_z := Aside0.mk hcc_; clear ho_ hcc_ hb_; clear HB0_) | ((with_reducible refine gate_dst (N := 31) rfl ?_); (try (refine gate_guard (by rfl) ?_; dsimp only)); refine C_lit (Kd.slice 5 (Kd.int .u8)) 22 ?hg (N := 31) ?hd (xs := [la, lb]) (inner := [.slice A_x la.length c_x, .slice A_z lb.length c_z]) ?hr ?hp (by simp) ?_; (case hd => rfl); (case hg => rfl); (case hr => first | (go_simp; done) | (go_simp; rfl)); (case hp => exact (Reps.one ⟨_, _, rfl, (by have := L_x.out; omega), (full_C H_x.out)⟩ (Reps.one ⟨_, _, rfl, (by have := L_z.out; omega), (full_C H_z.out)⟩ (Reps.none _ _)))); intro w_y2 A_y2 c_y2 hc_ l_y2 hb_; rw [← Ny.out] at hc_ l_y2 ⊢; replace CA := Aside0.mk (Kd.C_below CA.out hb_); replace CB := Aside0.mk (Kd.C_below CB.out hb_); replace H_x := Aside0.mk (Kd.R_below H_x.out hb_); replace H_z := Aside0.mk (Kd.R_below H_z.out hb_); replace HB := Aside0.mk (below_step HB.out hb_); have C_y2 := Aside0.mk hc_; have L_y2 := Aside0.mk l_y2; clear hc_ hb_ l_y2) | ((with_reducible refine gate_callee (f := 26) rfl ?_); (with_reducible refine gate_dst (N := 32) rfl ?_); (try (refine gate_guard (by rfl) ?_; dsimp only)); refine goesL_ (some 32) rfl rfl Try.func26 (by kernel_rfl) rfl #[.int .i64 size, .slice A_y2 y.length c_y2] rfl (by (try simp only [List.map_toArray, List.map_cons, List.map_nil]); first | done | rfl) ?_; (refine (wire_Box.calls K2 size _ _ y bx none _ ?side1 ?side2 A2.out).mono ?_); (case side1 => exact C_y2.out); (case side2 => exact L_y2.out); rintro e w_bx ⟨v_bx, rfl, ho_, hb_⟩; refine ⟨_, rfl, ?_⟩; have HB0_ := HB; replace CA := Aside0.mk (Kd.C_below CA.out hb_); replace CB := Aside0.mk (Kd.C_below CB.out hb_); replace H_x := Aside0.mk (Kd.R_below H_x.out hb_); replace H_z := Aside0.mk (Kd.R_below H_z.out hb_); replace C_y2 := Aside0.mk (Kd.C_below C_y2.out hb_); replace HB := Aside0.mk (below_step HB.out hb_); have H_bx := Aside0.mk (Kd.R_lower ho_ (below_size HB0_.out)); clear ho_ hb_; obtain ⟨A_bx, c_bx, e_bx⟩ := Kd.R_slice H_bx.out; subst e_bx; (try simp only [errW_none, errW_some]); clear HB0_) | ((with_reducible refine gate_dst (N := 37) rfl ?_); (try (refine gate_guard (by rfl) ?_; dsimp only)); refine Kd.R_lit (w0 := w_bx) (Kd.int .u8) w_bx.heap.size 5 ?hg (N := 37) ?hd (xs := []) (inner := []) (ok := fun _ => True) (okp := fun _ => True) ?hr ?hp (fun _ hk => hk) trivial (Below.refl _ _) (Nat.le_refl _) (by simp) ?_; (case hd => rfl); (case hg => rfl); (case hr => first | (go_simp; done) | (go_simp; rfl)); (case hp => exact (Reps.none _ _)); intro v_o w_o ho_ hb_ hg_ hnew_; have HOWN := Aside0.mk ho_; have HOB := Aside0.mk hb_; clear ho_ hb_ hg_ hnew_) | ((with_reducible refine gate_builtin (b := .append) (xs := #[.tmp 37, .tmp 38]) rfl ?_); at_builtin; refine Kd.R_append_rows (Kd.int .u8) (w0 := w_bx) w_bx.heap.size rfl (.tmp 37) (.tmp 38) 22 5 (.int .u8 0) 1 rfl Try.underlying22 info5 rfl (by decide) (by omega) v_o [] la _ _ _ (fun _ => True) (fun _ => False) rfl rfl ?aO ?aR (fun _ _ h => h) (fun _ h => h.elim) ?aF ?aB ?aS ?aL ?_; (case aR => exact Kd.C_below CA.out HOB.out); (case aB => exact HOB.out); (case aF => exact (fun _ _ => trivial)); (case aO => exact HOWN.out); (case aS => exact below_size HOB.out); (case aL => have := LL.out; simp; omega); intro v_oa w_oa ho_ hb_ hg_ hat_; rw [List.nil_append] at ho_; replace HOWN := Aside0.mk ho_; replace HOB := Aside0.mk hb_; clear ho_ hb_ hg_ hat_) | ((with_reducible refine gate_builtin (b := .append) (xs := #[.tmp 39, .tmp 40]) rfl ?_); at_builtin; refine Kd.R_append_rows (Kd.int .u8) (w0 := w_bx) w_bx.heap.size rfl (.tmp 39) (.tmp 40) 22 5 (.int .u8 0) 1 rfl Try.underlying22 info5 rfl (by decide) (by omega) v_oa la lb _ _ _ (fun _ => True) (fun _ => False) rfl rfl ?aO ?aR (fun _ _ h => h) (fun _ h => h.elim) ?aF ?aB ?aS ?aL ?_; (case aR => exact Kd.C_below CB.out HOB.out); (case aB => exact HOB.out); (case aF => exact (fun _ _ => trivial)); (case aO => exact HOWN.out); (case aS => exact below_size HOB.out); (case aL => have := LL.out; omega); intro v_ob w_ob ho_ hb_ hg_ hat_; rw [← Nwh.out] at ho_; replace HOWN := Aside0.mk ho_; replace HOB := Aside0.mk hb_; clear ho_ hb_ hg_ hat_; have HB0_ := HB; replace CA := Aside0.mk (Kd.C_below CA.out HOB.out); replace CB := Aside0.mk (Kd.C_below CB.out HOB.out); replace H_x := Aside0.mk (Kd.R_below H_x.out HOB.out); replace H_z := Aside0.mk (Kd.R_below H_z.out HOB.out); replace H_bx := Aside0.mk (Kd.R_below H_bx.out HOB.out); replace HB := Aside0.mk (below_step HB.out HOB.out); have H_wh := Aside0.mk (Kd.R_lower HOWN.out (below_size HB0_.out)); clear HOWN HOB HB0_; obtain ⟨A_wh, c_wh, e_wh⟩ := Kd.R_slice H_wh.out; subst e_wh) | ((with_reducible refine gate_callee (f := 27) rfl ?_); (with_reducible refine gate_dst (N := 42) rfl ?_); (try (refine gate_guard (by rfl) ?_; dsimp only)); refine goesL_ (some 42) rfl rfl Try.func27 (by kernel_rfl) rfl #[.int .i64 size, .slice A_wh wh.length c_wh] rfl (by (try simp only [List.map_toArray, List.map_cons, List.map_nil]); first | done | rfl) ?_; (refine (palimpsestref02_Box.calls K3 size _ _ wh bx erc _ ?side1 ?side2 A3.out).mono ?_); (case side1 => exact (Kd.R_reads' H_wh.out).2.2); (case side2 => exact (Kd.R_reads' H_wh.out).2.1); rintro e w_rb ⟨v_rb, rfl, ho_, hb_⟩; refine ⟨_, rfl, ?_⟩; have HB0_ := HB; replace CA := Aside0.mk (Kd.C_below CA.out hb_); replace CB := Aside0.mk (Kd.C_below CB.out hb_); replace H_x := Aside0.mk (Kd.R_below H_x.out hb_); replace H_z := Aside0.mk (Kd.R_below H_z.out hb_); replace H_bx := Aside0.mk (Kd.R_below H_bx.out hb_); replace H_wh := Aside0.mk (Kd.R_below H_wh.out hb_); replace HB := Aside0.mk (below_step HB.out hb_); have H_rb := Aside0.mk (Kd.R_lower ho_ (below_size HB0_.out)); clear ho_ hb_; obtain ⟨A_rb, c_rb, e_rb⟩ := Kd.R_slice H_rb.out; subst e_rb; have hcv1 := own_string (P := Try.prog) Try.underlying22 Try.underlying5 Try.underlying9 (Kd.own_of_R H_bx.out); have hcv2 := own_string (P := Try.prog) Try.underlying22 Try.underlying5 Try.underlying9 (Kd.own_of_R H_rb.out); clear HB0_) | ((with_reducible refine gate_callee (f := 28) rfl ?_); (with_reducible refine gate_dst (N := 52) rfl ?_); (try (refine gate_guard (by rfl) ?_; dsimp only)); refine goesL_ (some 52) rfl rfl Try.func28 (by kernel_rfl) rfl #[.nilIface] rfl (by (try simp only [List.map_toArray, List.map_cons, List.map_nil]); first | done | rfl) ?_; (refine (palimpsestnum_Num.calls none erc _ A4.out).mono ?_); rintro e w_nm ⟨rfl, ⟨⟨nm_, rfl⟩⟩⟩; refine ⟨_, rfl, ?_⟩; have HB0_ := HB; replace CA := Aside0.mk (Kd.C_below CA.out (pw_below_drewN (Below.refl _ _) nm_)); replace CB := Aside0.mk (Kd.C_below CB.out (pw_below_drewN (Below.refl _ _) nm_)); replace H_x := Aside0.mk (Kd.R_below H_x.out (pw_below_drewN (Below.refl _ _) nm_)); replace H_z := Aside0.mk (Kd.R_below H_z.out (pw_below_drewN (Below.refl _ _) nm_)); replace H_bx := Aside0.mk (Kd.R_below H_bx.out (pw_below_drewN (Below.refl _ _) nm_)); replace HB := Aside0.mk (below_step HB.out (pw_below_drewN (Below.refl _ _) nm_)); clear hcv1 hcv2; clear HB0_) | ((with_reducible refine gate_callee (f := 23) rfl ?_); (with_reducible refine gate_dst (N := 59) rfl ?_); (try (refine gate_guard (by rfl) ?_; dsimp only)); refine goesL_ (some 59) rfl rfl Try.func23 (by kernel_rfl) rfl #[.slice A_x la.length c_x, .slice A la.length ca] rfl (by (try simp only [List.map_toArray, List.map_cons, List.map_nil]); first | done | rfl) ?_; (refine (kept_calls A_x A c_x ca _ la _ H_x.out L_x.out CA.out LA.out (by have := LL.out; omega) (R_room H_x.out)).mono ?_); rintro e w_k1 ⟨rfl, hb_⟩; refine ⟨_, rfl, ?_⟩; have HB0_ := HB; replace CA := Aside0.mk (Kd.C_below CA.out hb_); replace CB := Aside0.mk (Kd.C_below CB.out hb_); replace H_x := Aside0.mk (Kd.R_below H_x.out hb_); replace H_z := Aside0.mk (Kd.R_below H_z.out hb_); replace H_bx := Aside0.mk (Kd.R_below H_bx.out hb_); replace HB := Aside0.mk (below_step HB.out hb_); clear hb_; clear HB0_) | ((with_reducible refine gate_callee (f := 23) rfl ?_); (with_reducible refine gate_dst (N := 65) rfl ?_); (try (refine gate_guard (by rfl) ?_; dsimp only)); refine goesL_ (some 65) rfl rfl Try.func23 (by kernel_rfl) rfl #[.slice A_z lb.length c_z, .slice B lb.length cb] rfl (by (try simp only [List.map_toArray, List.map_cons, List.map_nil]); first | done | rfl) ?_; (refine (kept_calls A_z B c_z cb _ lb _ H_z.out L_z.out CB.out LB.out (by have := LL.out; omega) (R_room H_z.out)).mono ?_); rintro e w_k2 ⟨rfl, hb_⟩; refine ⟨_, rfl, ?_⟩; have HB0_ := HB; replace CA := Aside0.mk (Kd.C_below CA.out hb_); replace CB := Aside0.mk (Kd.C_below CB.out hb_); replace H_x := Aside0.mk (Kd.R_below H_x.out hb_); replace H_z := Aside0.mk (Kd.R_below H_z.out hb_); replace H_bx := Aside0.mk (Kd.R_below H_bx.out hb_); replace HB := Aside0.mk (below_step HB.out hb_); clear hb_; clear HB0_) | ((with_reducible refine gate_callee (f := 29) rfl ?_); (with_reducible refine gate_dst (N := 70) rfl ?_); (try (refine gate_guard (by rfl) ?_; dsimp only)); refine goesL_ (some 70) rfl rfl Try.func29 (by kernel_rfl) rfl #[.slice A_x la.length c_x] rfl (by (try simp only [List.map_toArray, List.map_cons, List.map_nil]); first | done | rfl) ?_; (refine (wire_Unbox.calls K5 _ _ la inA none _ ?side1 ?side2 A5.out).mono ?_); (case side1 => exact full_C H_x.out); (case side2 => exact (by have := L_x.out; omega)); rintro e w_in ⟨v_in, rfl, ho_, hb_⟩; refine ⟨_, rfl, ?_⟩; have HB0_ := HB; replace CA := Aside0.mk (Kd.C_below CA.out hb_); replace CB := Aside0.mk (Kd.C_below CB.out hb_); replace H_x := Aside0.mk (Kd.R_below H_x.out hb_); replace H_z := Aside0.mk (Kd.R_below H_z.out hb_); replace H_bx := Aside0.mk (Kd.R_below H_bx.out hb_); replace HB := Aside0.mk (below_step HB.out hb_); have H_in := Aside0.mk (Kd.R_lower ho_ (below_size HB0_.out)); clear ho_ hb_; obtain ⟨A_in, c_in, e_in⟩ := Kd.R_slice H_in.out; subst e_in; (try simp only [errW_none, errW_some]); clear HB0_) | ((with_reducible refine gate_callee (f := 30) rfl ?_); (with_reducible refine gate_dst (N := 75) rfl ?_); (try (refine gate_guard (by rfl) ?_; dsimp only)); refine goesL_ (some 75) rfl rfl Try.func30 (by kernel_rfl) rfl #[.slice A la.length ca] rfl (by (try simp only [List.map_toArray, List.map_cons, List.map_nil]); first | done | rfl) ?_; (refine (palimpsestref02_Unbox.calls K6 _ _ la inA true _ ?side1 ?side2 A6.out).mono ?_); (case side1 => exact CA.out); (case side2 => exact LA.out); rintro e w_ru ⟨v_ru, rfl, ho_, hb_⟩; refine ⟨_, rfl, ?_⟩; have HB0_ := HB; replace CA := Aside0.mk (Kd.C_below CA.out hb_); replace CB := Aside0.mk (Kd.C_below CB.out hb_); replace H_x := Aside0.mk (Kd.R_below H_x.out hb_); replace H_z := Aside0.mk (Kd.R_below H_z.out hb_); replace H_bx := Aside0.mk (Kd.R_below H_bx.out hb_); replace H_in := Aside0.mk (Kd.R_below H_in.out hb_); replace HB := Aside0.mk (below_step HB.out hb_); have H_ru := Aside0.mk (Kd.R_lower ho_ (below_size HB0_.out)); clear ho_ hb_; obtain ⟨A_ru, c_ru, e_ru⟩ := Kd.R_slice H_ru.out; subst e_ru; have hcv3 := own_string (P := Try.prog) Try.underlying22 Try.underlying5 Try.underlying9 (Kd.own_of_R H_in.out); have hcv4 := own_string (P := Try.prog) Try.underlying22 Try.underlying5 Try.underlying9 (Kd.own_of_R H_ru.out); clear HB0_) | ((with_reducible refine gate_callee (f := 29) rfl ?_); (with_reducible refine gate_dst (N := 102) rfl ?_); (try (refine gate_guard (by rfl) ?_; dsimp only)); refine goesL_ (some 102) rfl rfl Try.func29 (by kernel_rfl) rfl #[.slice A_bx bx.length c_bx] rfl (by (try simp only [List.map_toArray, List.map_cons, List.map_nil]); first | done | rfl) ?_; (refine (wire_Unbox.calls K7 _ _ bx wh none _ ?side1 ?side2 A7.out).mono ?_); (case side1 => exact (Kd.R_reads' H_bx.out).2.2); (case side2 => exact (Kd.R_reads' H_bx.out).2.1); rintro e w_ot ⟨v_ot, rfl, ho_, hb_⟩; refine ⟨_, rfl, ?_⟩; have HB0_ := HB; replace CA := Aside0.mk (Kd.C_below CA.out hb_); replace CB := Aside0.mk (Kd.C_below CB.out hb_); replace H_x := Aside0.mk (Kd.R_below H_x.out hb_); replace H_z := Aside0.mk (Kd.R_below H_z.out hb_); replace H_bx := Aside0.mk (Kd.R_below H_bx.out hb_); replace HB := Aside0.mk (below_step HB.out hb_); have H_ot := Aside0.mk (Kd.R_lower ho_ (below_size HB0_.out)); clear ho_ hb_; obtain ⟨A_ot, c_ot, e_ot⟩ := Kd.R_slice H_ot.out; subst e_ot; (try simp only [errW_none, errW_some]); have hcv5 := own_string (P := Try.prog) Try.underlying22 Try.underlying5 Try.underlying9 (Kd.own_of_R H_ot.out); have hcv6 := Kd.C_string (P := Try.prog) (A := A) (c := ca) Try.underlying22 Try.underlying5 Try.underlying9 CA.out; have hcv7 := Kd.C_string (P := Try.prog) (A := B) (c := cb) Try.underlying22 Try.underlying5 Try.underlying9 CB.out; clear HB0_))
  go_ret
  exact ⟨rfl, HB.out⟩
set_option maxHeartbeats 8000000 in
set_option maxRecDepth 100000 in
theorem boxes_d (size : Int) (A B : Option Addr) (ca cb : Nat) (la lb : List Int) (w : World) (hA : Kd.C (Kd.int .u8) w A la.length la) (hB : Kd.C (Kd.int .u8) w B lb.length lb) (hca : la.length ≤ ca) (hcb : lb.length ≤ cb) (K1 K2 K3 K5 K6 K7 : Nat)
    (h1 : palimpsestlaw02_large.f K1 [la, lb] = some false) (hll : la.length + lb.length ≤ 131072) (bx inA : List Int) (er erc : Int) (h2 : wire_Box.f K2 size [la, lb] = some (bx, none)) (h3 : palimpsestref02_Box.f K3 size (la ++ lb) = some (bx, erc)) (h4 : palimpsestnum_Num.f none = some erc) (h5 : wire_Unbox.f K5 la = some (inA, (some 4))) (h6 : palimpsestref02_Unbox.f K6 la = some (inA, false)) (h7 : wire_Unbox.f K7 bx = some (la ++ lb, none)) :
    Calls Try.prog 5 #[.int .i64 size, .slice A la.length ca, .slice B lb.length cb] w fun e w' => e = .returned (.bool true) ∧ Below w.heap.size w w' := by
  have CA := Aside0.mk hA
  have CB := Aside0.mk hB
  have LA := Aside0.mk hca
  have LB := Aside0.mk hcb
  have HB := Aside0.mk (Below.refl w.heap.size w)
  have heq := eql49
  have hneq := neq49
  obtain ⟨y, hy⟩ : ∃ y, y = [la, lb] := ⟨_, rfl⟩
  obtain ⟨wh, hwh⟩ : ∃ wh, wh = la ++ lb := ⟨_, rfl⟩
  have A1 := Aside0.mk (show palimpsestlaw02_large.f K1 y = some false by rw [hy]; exact h1)
  have A2 := Aside0.mk (show wire_Box.f K2 size y = some (bx, none) by rw [hy]; exact h2)
  have A3 := Aside0.mk (show palimpsestref02_Box.f K3 size wh = some (bx, erc) by rw [hwh]; exact h3)
  have A4 := Aside0.mk h4
  have A5 := Aside0.mk h5
  have A6 := Aside0.mk h6
  have A7 := Aside0.mk (show wire_Unbox.f K7 bx = some (wh, none) by rw [hwh]; exact h7)
  have hst : strOfNums la ++ strOfNums lb = strOfNums wh := by rw [hwh]; exact (str_append la lb).symm
  have hsz : (strOfNums la).size + (strOfNums lb).size ≤ 9223372036854775807 := by rw [strOfNums_size, strOfNums_size]; omega
  clear h7
  have Ny := Aside0.mk hy
  have Nwh := Aside0.mk hwh
  have LL := Aside0.mk hll
  clear hA hB hca hcb hy h1 h2 h3 h4 h5 h6 hll hwh
  go_enter Try.func5, Try.ntmps5
  go_wp2_with (first | ((with_reducible refine gate_callee (f := 16) rfl ?_); (with_reducible refine gate_dst (N := 17) rfl ?_); (try (refine gate_guard (by rfl) ?_; dsimp only)); refine goesL_ (some 17) rfl rfl Try.func16 (by kernel_rfl) rfl #[] rfl (by (try simp only [List.map_toArray, List.map_cons, List.map_nil]); first | done | rfl) ?_; (refine (alive_calls _).mono ?_); rintro e w_al ⟨rfl, hb_⟩; refine ⟨_, rfl, ?_⟩; have HB0_ := HB; replace CA := Aside0.mk (Kd.C_below CA.out hb_); replace CB := Aside0.mk (Kd.C_below CB.out hb_); replace HB := Aside0.mk (below_step HB.out hb_); clear hb_; clear HB0_) | ((with_reducible refine gate_dst (N := 21) rfl ?_); (try (refine gate_guard (by rfl) ?_; dsimp only)); refine C_lit (Kd.slice 5 (Kd.int .u8)) 22 ?hg (N := 21) ?hd (xs := [la, lb]) (inner := [.slice A la.length ca, .slice B lb.length cb]) ?hr ?hp (by simp) ?_; (case hd => rfl); (case hg => rfl); (case hr => first | (go_simp; done) | (go_simp; rfl)); (case hp => exact (Reps.one ⟨_, _, rfl, LA.out, CA.out⟩ (Reps.one ⟨_, _, rfl, LB.out, CB.out⟩ (Reps.none _ _)))); intro w_y A_y c_y hc_ l_y hb_; rw [← Ny.out] at hc_ l_y ⊢; replace CA := Aside0.mk (Kd.C_below CA.out hb_); replace CB := Aside0.mk (Kd.C_below CB.out hb_); replace HB := Aside0.mk (below_step HB.out hb_); have C_y := Aside0.mk hc_; have L_y := Aside0.mk l_y; clear hc_ hb_ l_y) | ((with_reducible refine gate_callee (f := 17) rfl ?_); (with_reducible refine gate_dst (N := 22) rfl ?_); (try (refine gate_guard (by rfl) ?_; dsimp only)); refine goesL_ (some 22) rfl rfl Try.func17 (by kernel_rfl) rfl #[.slice A_y y.length c_y] rfl (by (try simp only [List.map_toArray, List.map_cons, List.map_nil]); first | done | rfl) ?_; (refine (palimpsestlaw02_large.calls K1 _ _ y false _ ?side1 ?side2 A1.out).mono ?_); (case side1 => exact C_y.out); (case side2 => exact L_y.out); rintro e w_lg ⟨rfl, ⟨⟨nd_, rfl⟩⟩⟩; refine ⟨_, rfl, ?_⟩; have HB0_ := HB; replace CA := Aside0.mk (Kd.C_below CA.out (pw_below_drewN (Below.refl _ _) nd_)); replace CB := Aside0.mk (Kd.C_below CB.out (pw_below_drewN (Below.refl _ _) nd_)); replace C_y := Aside0.mk (Kd.C_below C_y.out (pw_below_drewN (Below.refl _ _) nd_)); replace HB := Aside0.mk (below_step HB.out (pw_below_drewN (Below.refl _ _) nd_)); clear HB0_) | ((with_reducible refine gate_callee (f := 18) rfl ?_); (with_reducible refine gate_dst (N := 24) rfl ?_); (try (refine gate_guard (by rfl) ?_; dsimp only)); refine goesL_ (some 24) rfl rfl Try.func18 (by kernel_rfl) rfl #[.slice A la.length ca] rfl (by (try simp only [List.map_toArray, List.map_cons, List.map_nil]); first | done | rfl) ?_; (refine (copy_calls A ca la _ CA.out LA.out (by have := LL.out; omega)).mono ?_); rintro e w_x ⟨A_x, c_x, rfl, ho_, hcc_, hb_⟩; refine ⟨_, rfl, ?_⟩; have HB0_ := HB; replace CA := Aside0.mk (Kd.C_below CA.out hb_); replace CB := Aside0.mk (Kd.C_below CB.out hb_); replace HB := Aside0.mk (below_step HB.out hb_); have H_x := Aside0.mk (Kd.R_lower ho_ (below_size HB0_.out)); have L_x := Aside0.mk hcc_; clear ho_ hcc_ hb_; clear HB0_) | ((with_reducible refine gate_callee (f := 18) rfl ?_); (with_reducible refine gate_dst (N := 26) rfl ?_); (try (refine gate_guard (by rfl) ?_; dsimp only)); refine goesL_ (some 26) rfl rfl Try.func18 (by kernel_rfl) rfl #[.slice B lb.length cb] rfl (by (try simp only [List.map_toArray, List.map_cons, List.map_nil]); first | done | rfl) ?_; (refine (copy_calls B cb lb _ CB.out LB.out (by have := LL.out; omega)).mono ?_); rintro e w_z ⟨A_z, c_z, rfl, ho_, hcc_, hb_⟩; refine ⟨_, rfl, ?_⟩; have HB0_ := HB; replace CA := Aside0.mk (Kd.C_below CA.out hb_); replace CB := Aside0.mk (Kd.C_below CB.out hb_); replace H_x := Aside0.mk (Kd.R_below H_x.out hb_); replace HB := Aside0.mk (below_step HB.out hb_); have H_z := Aside0.mk (Kd.R_lower ho_ (below_size HB0_.out)); have L_z := Aside0.mk hcc_; clear ho_ hcc_ hb_; clear HB0_) | ((with_reducible refine gate_dst (N := 31) rfl ?_); (try (refine gate_guard (by rfl) ?_; dsimp only)); refine C_lit (Kd.slice 5 (Kd.int .u8)) 22 ?hg (N := 31) ?hd (xs := [la, lb]) (inner := [.slice A_x la.length c_x, .slice A_z lb.length c_z]) ?hr ?hp (by simp) ?_; (case hd => rfl); (case hg => rfl); (case hr => first | (go_simp; done) | (go_simp; rfl)); (case hp => exact (Reps.one ⟨_, _, rfl, (by have := L_x.out; omega), (full_C H_x.out)⟩ (Reps.one ⟨_, _, rfl, (by have := L_z.out; omega), (full_C H_z.out)⟩ (Reps.none _ _)))); intro w_y2 A_y2 c_y2 hc_ l_y2 hb_; rw [← Ny.out] at hc_ l_y2 ⊢; replace CA := Aside0.mk (Kd.C_below CA.out hb_); replace CB := Aside0.mk (Kd.C_below CB.out hb_); replace H_x := Aside0.mk (Kd.R_below H_x.out hb_); replace H_z := Aside0.mk (Kd.R_below H_z.out hb_); replace HB := Aside0.mk (below_step HB.out hb_); have C_y2 := Aside0.mk hc_; have L_y2 := Aside0.mk l_y2; clear hc_ hb_ l_y2) | ((with_reducible refine gate_callee (f := 26) rfl ?_); (with_reducible refine gate_dst (N := 32) rfl ?_); (try (refine gate_guard (by rfl) ?_; dsimp only)); refine goesL_ (some 32) rfl rfl Try.func26 (by kernel_rfl) rfl #[.int .i64 size, .slice A_y2 y.length c_y2] rfl (by (try simp only [List.map_toArray, List.map_cons, List.map_nil]); first | done | rfl) ?_; (refine (wire_Box.calls K2 size _ _ y bx none _ ?side1 ?side2 A2.out).mono ?_); (case side1 => exact C_y2.out); (case side2 => exact L_y2.out); rintro e w_bx ⟨v_bx, rfl, ho_, hb_⟩; refine ⟨_, rfl, ?_⟩; have HB0_ := HB; replace CA := Aside0.mk (Kd.C_below CA.out hb_); replace CB := Aside0.mk (Kd.C_below CB.out hb_); replace H_x := Aside0.mk (Kd.R_below H_x.out hb_); replace H_z := Aside0.mk (Kd.R_below H_z.out hb_); replace C_y2 := Aside0.mk (Kd.C_below C_y2.out hb_); replace HB := Aside0.mk (below_step HB.out hb_); have H_bx := Aside0.mk (Kd.R_lower ho_ (below_size HB0_.out)); clear ho_ hb_; obtain ⟨A_bx, c_bx, e_bx⟩ := Kd.R_slice H_bx.out; subst e_bx; (try simp only [errW_none, errW_some]); clear HB0_) | ((with_reducible refine gate_dst (N := 37) rfl ?_); (try (refine gate_guard (by rfl) ?_; dsimp only)); refine Kd.R_lit (w0 := w_bx) (Kd.int .u8) w_bx.heap.size 5 ?hg (N := 37) ?hd (xs := []) (inner := []) (ok := fun _ => True) (okp := fun _ => True) ?hr ?hp (fun _ hk => hk) trivial (Below.refl _ _) (Nat.le_refl _) (by simp) ?_; (case hd => rfl); (case hg => rfl); (case hr => first | (go_simp; done) | (go_simp; rfl)); (case hp => exact (Reps.none _ _)); intro v_o w_o ho_ hb_ hg_ hnew_; have HOWN := Aside0.mk ho_; have HOB := Aside0.mk hb_; clear ho_ hb_ hg_ hnew_) | ((with_reducible refine gate_builtin (b := .append) (xs := #[.tmp 37, .tmp 38]) rfl ?_); at_builtin; refine Kd.R_append_rows (Kd.int .u8) (w0 := w_bx) w_bx.heap.size rfl (.tmp 37) (.tmp 38) 22 5 (.int .u8 0) 1 rfl Try.underlying22 info5 rfl (by decide) (by omega) v_o [] la _ _ _ (fun _ => True) (fun _ => False) rfl rfl ?aO ?aR (fun _ _ h => h) (fun _ h => h.elim) ?aF ?aB ?aS ?aL ?_; (case aR => exact Kd.C_below CA.out HOB.out); (case aB => exact HOB.out); (case aF => exact (fun _ _ => trivial)); (case aO => exact HOWN.out); (case aS => exact below_size HOB.out); (case aL => have := LL.out; simp; omega); intro v_oa w_oa ho_ hb_ hg_ hat_; rw [List.nil_append] at ho_; replace HOWN := Aside0.mk ho_; replace HOB := Aside0.mk hb_; clear ho_ hb_ hg_ hat_) | ((with_reducible refine gate_builtin (b := .append) (xs := #[.tmp 39, .tmp 40]) rfl ?_); at_builtin; refine Kd.R_append_rows (Kd.int .u8) (w0 := w_bx) w_bx.heap.size rfl (.tmp 39) (.tmp 40) 22 5 (.int .u8 0) 1 rfl Try.underlying22 info5 rfl (by decide) (by omega) v_oa la lb _ _ _ (fun _ => True) (fun _ => False) rfl rfl ?aO ?aR (fun _ _ h => h) (fun _ h => h.elim) ?aF ?aB ?aS ?aL ?_; (case aR => exact Kd.C_below CB.out HOB.out); (case aB => exact HOB.out); (case aF => exact (fun _ _ => trivial)); (case aO => exact HOWN.out); (case aS => exact below_size HOB.out); (case aL => have := LL.out; omega); intro v_ob w_ob ho_ hb_ hg_ hat_; rw [← Nwh.out] at ho_; replace HOWN := Aside0.mk ho_; replace HOB := Aside0.mk hb_; clear ho_ hb_ hg_ hat_; have HB0_ := HB; replace CA := Aside0.mk (Kd.C_below CA.out HOB.out); replace CB := Aside0.mk (Kd.C_below CB.out HOB.out); replace H_x := Aside0.mk (Kd.R_below H_x.out HOB.out); replace H_z := Aside0.mk (Kd.R_below H_z.out HOB.out); replace H_bx := Aside0.mk (Kd.R_below H_bx.out HOB.out); replace HB := Aside0.mk (below_step HB.out HOB.out); have H_wh := Aside0.mk (Kd.R_lower HOWN.out (below_size HB0_.out)); clear HOWN HOB HB0_; obtain ⟨A_wh, c_wh, e_wh⟩ := Kd.R_slice H_wh.out; subst e_wh) | ((with_reducible refine gate_callee (f := 27) rfl ?_); (with_reducible refine gate_dst (N := 42) rfl ?_); (try (refine gate_guard (by rfl) ?_; dsimp only)); refine goesL_ (some 42) rfl rfl Try.func27 (by kernel_rfl) rfl #[.int .i64 size, .slice A_wh wh.length c_wh] rfl (by (try simp only [List.map_toArray, List.map_cons, List.map_nil]); first | done | rfl) ?_; (refine (palimpsestref02_Box.calls K3 size _ _ wh bx erc _ ?side1 ?side2 A3.out).mono ?_); (case side1 => exact (Kd.R_reads' H_wh.out).2.2); (case side2 => exact (Kd.R_reads' H_wh.out).2.1); rintro e w_rb ⟨v_rb, rfl, ho_, hb_⟩; refine ⟨_, rfl, ?_⟩; have HB0_ := HB; replace CA := Aside0.mk (Kd.C_below CA.out hb_); replace CB := Aside0.mk (Kd.C_below CB.out hb_); replace H_x := Aside0.mk (Kd.R_below H_x.out hb_); replace H_z := Aside0.mk (Kd.R_below H_z.out hb_); replace H_bx := Aside0.mk (Kd.R_below H_bx.out hb_); replace H_wh := Aside0.mk (Kd.R_below H_wh.out hb_); replace HB := Aside0.mk (below_step HB.out hb_); have H_rb := Aside0.mk (Kd.R_lower ho_ (below_size HB0_.out)); clear ho_ hb_; obtain ⟨A_rb, c_rb, e_rb⟩ := Kd.R_slice H_rb.out; subst e_rb; have hcv1 := own_string (P := Try.prog) Try.underlying22 Try.underlying5 Try.underlying9 (Kd.own_of_R H_bx.out); have hcv2 := own_string (P := Try.prog) Try.underlying22 Try.underlying5 Try.underlying9 (Kd.own_of_R H_rb.out); clear HB0_) | ((with_reducible refine gate_callee (f := 28) rfl ?_); (with_reducible refine gate_dst (N := 52) rfl ?_); (try (refine gate_guard (by rfl) ?_; dsimp only)); refine goesL_ (some 52) rfl rfl Try.func28 (by kernel_rfl) rfl #[.nilIface] rfl (by (try simp only [List.map_toArray, List.map_cons, List.map_nil]); first | done | rfl) ?_; (refine (palimpsestnum_Num.calls none erc _ A4.out).mono ?_); rintro e w_nm ⟨rfl, ⟨⟨nm_, rfl⟩⟩⟩; refine ⟨_, rfl, ?_⟩; have HB0_ := HB; replace CA := Aside0.mk (Kd.C_below CA.out (pw_below_drewN (Below.refl _ _) nm_)); replace CB := Aside0.mk (Kd.C_below CB.out (pw_below_drewN (Below.refl _ _) nm_)); replace H_x := Aside0.mk (Kd.R_below H_x.out (pw_below_drewN (Below.refl _ _) nm_)); replace H_z := Aside0.mk (Kd.R_below H_z.out (pw_below_drewN (Below.refl _ _) nm_)); replace H_bx := Aside0.mk (Kd.R_below H_bx.out (pw_below_drewN (Below.refl _ _) nm_)); replace HB := Aside0.mk (below_step HB.out (pw_below_drewN (Below.refl _ _) nm_)); clear hcv1 hcv2; clear HB0_) | ((with_reducible refine gate_callee (f := 23) rfl ?_); (with_reducible refine gate_dst (N := 59) rfl ?_); (try (refine gate_guard (by rfl) ?_; dsimp only)); refine goesL_ (some 59) rfl rfl Try.func23 (by kernel_rfl) rfl #[.slice A_x la.length c_x, .slice A la.length ca] rfl (by (try simp only [List.map_toArray, List.map_cons, List.map_nil]); first | done | rfl) ?_; (refine (kept_calls A_x A c_x ca _ la _ H_x.out L_x.out CA.out LA.out (by have := LL.out; omega) (R_room H_x.out)).mono ?_); rintro e w_k1 ⟨rfl, hb_⟩; refine ⟨_, rfl, ?_⟩; have HB0_ := HB; replace CA := Aside0.mk (Kd.C_below CA.out hb_); replace CB := Aside0.mk (Kd.C_below CB.out hb_); replace H_x := Aside0.mk (Kd.R_below H_x.out hb_); replace H_z := Aside0.mk (Kd.R_below H_z.out hb_); replace H_bx := Aside0.mk (Kd.R_below H_bx.out hb_); replace HB := Aside0.mk (below_step HB.out hb_); clear hb_; clear HB0_) | ((with_reducible refine gate_callee (f := 23) rfl ?_); (with_reducible refine gate_dst (N := 65) rfl ?_); (try (refine gate_guard (by rfl) ?_; dsimp only)); refine goesL_ (some 65) rfl rfl Try.func23 (by kernel_rfl) rfl #[.slice A_z lb.length c_z, .slice B lb.length cb] rfl (by (try simp only [List.map_toArray, List.map_cons, List.map_nil]); first | done | rfl) ?_; (refine (kept_calls A_z B c_z cb _ lb _ H_z.out L_z.out CB.out LB.out (by have := LL.out; omega) (R_room H_z.out)).mono ?_); rintro e w_k2 ⟨rfl, hb_⟩; refine ⟨_, rfl, ?_⟩; have HB0_ := HB; replace CA := Aside0.mk (Kd.C_below CA.out hb_); replace CB := Aside0.mk (Kd.C_below CB.out hb_); replace H_x := Aside0.mk (Kd.R_below H_x.out hb_); replace H_z := Aside0.mk (Kd.R_below H_z.out hb_); replace H_bx := Aside0.mk (Kd.R_below H_bx.out hb_); replace HB := Aside0.mk (below_step HB.out hb_); clear hb_; clear HB0_) | ((with_reducible refine gate_callee (f := 29) rfl ?_); (with_reducible refine gate_dst (N := 70) rfl ?_); (try (refine gate_guard (by rfl) ?_; dsimp only)); refine goesL_ (some 70) rfl rfl Try.func29 (by kernel_rfl) rfl #[.slice A_x la.length c_x] rfl (by (try simp only [List.map_toArray, List.map_cons, List.map_nil]); first | done | rfl) ?_; (refine (wire_Unbox.calls K5 _ _ la inA (some 4) _ ?side1 ?side2 A5.out).mono ?_); (case side1 => exact full_C H_x.out); (case side2 => exact (by have := L_x.out; omega)); rintro e w_in ⟨v_in, rfl, ho_, hb_⟩; refine ⟨_, rfl, ?_⟩; have HB0_ := HB; replace CA := Aside0.mk (Kd.C_below CA.out hb_); replace CB := Aside0.mk (Kd.C_below CB.out hb_); replace H_x := Aside0.mk (Kd.R_below H_x.out hb_); replace H_z := Aside0.mk (Kd.R_below H_z.out hb_); replace H_bx := Aside0.mk (Kd.R_below H_bx.out hb_); replace HB := Aside0.mk (below_step HB.out hb_); have H_in := Aside0.mk (Kd.R_lower ho_ (below_size HB0_.out)); clear ho_ hb_; obtain ⟨A_in, c_in, e_in⟩ := Kd.R_slice H_in.out; subst e_in; (try simp only [errW_none, errW_some]); clear HB0_) | ((with_reducible refine gate_callee (f := 30) rfl ?_); (with_reducible refine gate_dst (N := 75) rfl ?_); (try (refine gate_guard (by rfl) ?_; dsimp only)); refine goesL_ (some 75) rfl rfl Try.func30 (by kernel_rfl) rfl #[.slice A la.length ca] rfl (by (try simp only [List.map_toArray, List.map_cons, List.map_nil]); first | done | rfl) ?_; (refine (palimpsestref02_Unbox.calls K6 _ _ la inA false _ ?side1 ?side2 A6.out).mono ?_); (case side1 => exact CA.out); (case side2 => exact LA.out); rintro e w_ru ⟨v_ru, rfl, ho_, hb_⟩; refine ⟨_, rfl, ?_⟩; have HB0_ := HB; replace CA := Aside0.mk (Kd.C_below CA.out hb_); replace CB := Aside0.mk (Kd.C_below CB.out hb_); replace H_x := Aside0.mk (Kd.R_below H_x.out hb_); replace H_z := Aside0.mk (Kd.R_below H_z.out hb_); replace H_bx := Aside0.mk (Kd.R_below H_bx.out hb_); replace H_in := Aside0.mk (Kd.R_below H_in.out hb_); replace HB := Aside0.mk (below_step HB.out hb_); have H_ru := Aside0.mk (Kd.R_lower ho_ (below_size HB0_.out)); clear ho_ hb_; obtain ⟨A_ru, c_ru, e_ru⟩ := Kd.R_slice H_ru.out; subst e_ru; have hcv3 := own_string (P := Try.prog) Try.underlying22 Try.underlying5 Try.underlying9 (Kd.own_of_R H_in.out); have hcv4 := own_string (P := Try.prog) Try.underlying22 Try.underlying5 Try.underlying9 (Kd.own_of_R H_ru.out); clear HB0_) | ((with_reducible refine gate_callee (f := 29) rfl ?_); (with_reducible refine gate_dst (N := 102) rfl ?_); (try (refine gate_guard (by rfl) ?_; dsimp only)); refine goesL_ (some 102) rfl rfl Try.func29 (by kernel_rfl) rfl #[.slice A_bx bx.length c_bx] rfl (by (try simp only [List.map_toArray, List.map_cons, List.map_nil]); first | done | rfl) ?_; (refine (wire_Unbox.calls K7 _ _ bx wh none _ ?side1 ?side2 A7.out).mono ?_); (case side1 => exact (Kd.R_reads' H_bx.out).2.2); (case side2 => exact (Kd.R_reads' H_bx.out).2.1); rintro e w_ot ⟨v_ot, rfl, ho_, hb_⟩; refine ⟨_, rfl, ?_⟩; have HB0_ := HB; replace CA := Aside0.mk (Kd.C_below CA.out hb_); replace CB := Aside0.mk (Kd.C_below CB.out hb_); replace H_x := Aside0.mk (Kd.R_below H_x.out hb_); replace H_z := Aside0.mk (Kd.R_below H_z.out hb_); replace H_bx := Aside0.mk (Kd.R_below H_bx.out hb_); replace HB := Aside0.mk (below_step HB.out hb_); have H_ot := Aside0.mk (Kd.R_lower ho_ (below_size HB0_.out)); clear ho_ hb_; obtain ⟨A_ot, c_ot, e_ot⟩ := Kd.R_slice H_ot.out; subst e_ot; (try simp only [errW_none, errW_some]); have hcv5 := own_string (P := Try.prog) Try.underlying22 Try.underlying5 Try.underlying9 (Kd.own_of_R H_ot.out); have hcv6 := Kd.C_string (P := Try.prog) (A := A) (c := ca) Try.underlying22 Try.underlying5 Try.underlying9 CA.out; have hcv7 := Kd.C_string (P := Try.prog) (A := B) (c := cb) Try.underlying22 Try.underlying5 Try.underlying9 CB.out; clear HB0_))
  go_ret
  exact ⟨rfl, HB.out⟩
end Go.Proofs.Ytbphmpncajfaiaa.K
