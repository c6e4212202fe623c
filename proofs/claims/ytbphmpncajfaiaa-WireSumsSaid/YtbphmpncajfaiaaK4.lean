/- WireTurns' own call: a box with one byte changed is none. -/
import Derived.Test.YtbphmpncajfaiaaK3
namespace Go.Proofs.Ytbphmpncajfaiaa.K
open Go.RowKit Go.Proofs.Ytbphmpncajfaiaa.M Go.Proofs.Ytbphmpncajfaiaa.Py Go.Proofs.YtbphmpncajfaiaaW.PrintWords Go.Proofs.YtbphmpncajfaiaaW.PrintLast Go.Proofs.YtbphmpncajfaiaaW.PrintMore
set_option linter.unusedVariables false
set_option linter.unusedSimpArgs false
theorem xor_u8 {a d : Int} (ha : 0 ≤ a ∧ a < 256) (hd : 0 ≤ d ∧ d < 256) (h : d ≠ 0) : (0 ≤ Go.bits .xor .u8 a d ∧ Go.bits .xor .u8 a d < 256) ∧ a ≠ Go.bits .xor .u8 a d := by
  obtain ⟨x, rfl⟩ := Int.eq_ofNat_of_zero_le ha.1
  obtain ⟨y, rfl⟩ := Int.eq_ofNat_of_zero_le hd.1
  have hx : x % 2 ^ IntKind.u8.bits = x := Nat.mod_eq_of_lt (by simp [IntKind.bits]; omega)
  have hy : y % 2 ^ IntKind.u8.bits = y := Nat.mod_eq_of_lt (by simp [IntKind.bits]; omega)
  have hxy : x ^^^ y < 256 := Nat.xor_lt_two_pow (n := 8) (by omega) (by omega)
  have e : Go.bits .xor .u8 (x : Int) (y : Int) = ((x ^^^ y : Nat) : Int) := by
    simp only [bits, BitVec.ofInt_natCast, BitVec.toNat_xor, BitVec.toNat_ofNat, hx, hy]
    rw [IntKind.wrap_u8]
    omega
  rw [e]
  refine ⟨by omega, fun hq => h ?_⟩
  have h1 : x ^^^ 0 = x ^^^ y := by rw [Nat.xor_zero]; omega
  have := xor_can_l h1
  omega
theorem u64_mod (a n : Int) (h0 : 0 < n) (h1 : n ≤ 4294967296) : ∃ i : Nat, (i : Int) < n ∧ wrap64 ((IntKind.u64.wrap a).tmod n) = i := by
  have hw : 0 ≤ IntKind.u64.wrap a := by rw [IntKind.wrap_u64]; omega
  rw [Int.tmod_eq_emod_of_nonneg hw]
  have h2 := Int.emod_nonneg (IntKind.u64.wrap a) (show n ≠ 0 by omega)
  have h3 := Int.emod_lt_of_pos (IntKind.u64.wrap a) h0
  refine ⟨(IntKind.u64.wrap a % n).toNat, by omega, ?_⟩
  rw [Int.toNat_of_nonneg h2]
  unfold wrap64
  omega
theorem slips_true (size at_ d : Int) (A : Option Addr) (c : Nat) (inn : List Int) (w : World) (hI : Kd.C (Kd.int .u8) w A inn.length inn) (hc : inn.length ≤ c) (hb : Bytes inn) (hl : inn.length ≤ 140737488355328) (hd : 0 ≤ d ∧ d < 256) :
    Calls Try.prog 31 #[.int .i64 size, .slice A inn.length c, .int .i64 at_, .int .u8 d] w fun e w' => e = .returned (.bool true) ∧ Below w.heap.size w w' := by
  obtain ⟨K1, h1⟩ := box_comes size (ls := [inn]) (fun l hm => by rw [List.mem_singleton] at hm; subst hm; exact ⟨hb, hl⟩) (by simp)
  have h1 := h1 K1 (Nat.le_refl _)
  rw [List.flatten_cons, List.flatten_nil, List.append_nil] at h1
  cases hr : (boxOf size inn).2 with
  | some e =>
    have he := boxOf_err hr
    have hbx : boxOf size inn = ([], some e) := by rw [← hr, ← he]
    rw [hbx] at h1
    exact slips_err size at_ d A c inn [] w hI hc K1 e h1 rfl
  | none =>
    obtain ⟨g1, g2, g3, g4, g5⟩ := boxOf_ok hr
    have gl := boxOf_len hr
    have hbx : boxOf size inn = ((boxOf size inn).1, none) := by rw [← hr]
    rw [hbx] at h1
    have hbb := boxOf_bytes (size := size) hb
    have h2 := unbox_comes (Bytes.replicate (boxOf size inn).1.length) (by rw [List.length_replicate]; omega)
    rw [unbox_zeros] at h2
    obtain ⟨K2, h2⟩ := h2
    have h2 := h2 K2 (Nat.le_refl _)
    by_cases hd0 : d = 0
    · exact slips_zero size at_ d A c inn _ w hI hc K1 K2 h1 (by omega) h2 hd0
    · obtain ⟨i, hi, hat⟩ := u64_mod at_ ((boxOf size inn).1.length : Int) (by omega) (by omega)
      have hi' : i < (boxOf size inn).1.length := by omega
      have hrd : rd (boxOf size inn).1 i = (boxOf size inn).1[i] := by
        unfold rd
        rw [List.getD_eq_getElem?_getD, Int.toNat_natCast, List.getElem?_eq_getElem hi']
        rfl
      have hx := xor_u8 (hbb _ (List.getElem_mem hi')) hd hd0
      have h3 := unbox_comes (b := (boxOf size inn).1.set i (Go.bits .xor .u8 (rd (boxOf size inn).1 i) d)) (fun x hx' => by
        rcases List.mem_or_eq_of_mem_set hx' with h7 | h7
        · exact hbb x h7
        · rw [h7, hrd]
          exact hx.1) (by rw [List.length_set]; omega)
      rw [hrd, unbox_change hb hr hi' hx.1 hx.2] at h3
      obtain ⟨K3, h3⟩ := h3
      have h3 := h3 K3 (Nat.le_refl _)
      rw [← hrd] at h3
      exact slips_turn size at_ d A c inn _ w hI hc K1 K2 K3 h1 (by omega) (by omega) h2 hd0 i hi' hat h3
theorem turns_calls (size at_ d : Int) (A : Option Addr) (c : Nat) (inn : List Int) (w : World) (hI : Kd.C (Kd.int .u8) w A inn.length inn) (hc : inn.length ≤ c) (hb : Bytes inn) (hl : inn.length ≤ 140737488355328) (hd : 0 ≤ d ∧ d < 256) :
    Calls Try.prog 6 #[.agg #[.int .i64 size, .slice A inn.length c, .int .i64 at_, .int .u8 d]] w fun e w' => e = .returned (.bool true) ∧ Below w.heap.size w w' := by
  have HI := Aside0.mk hI
  have HC := Aside0.mk hc
  have HB := Aside0.mk hb
  clear hI hc hb
  go_enter Try.func6, Try.ntmps6
  go_wp2_with (go_at_call 31; (with_reducible refine (slips_true size at_ d A c inn _ ?side1 HC.out HB.out hl hd).mono ?_); (case side1 => exact Kd.C_alloc HI.out _); rintro e w' ⟨rfl, hb_⟩)
  go_ret
  exact ⟨rfl, below_then (below_alloc (Below.refl _ _) _) (below_size (below_alloc (Below.refl _ _) _)) hb_⟩
end Go.Proofs.Ytbphmpncajfaiaa.K
