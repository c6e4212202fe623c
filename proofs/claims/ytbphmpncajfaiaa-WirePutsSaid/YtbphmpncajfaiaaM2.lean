/- Plain: CRC-32 tells every change of one byte; that of up to 65532 zeros is not 0. -/
import Derived.Test.YtbphmpncajfaiaaM1
namespace Go.Proofs.Ytbphmpncajfaiaa.M
open Go.RowKit Go.Proofs.Ytbphmpncajfaiaa.Py Go.Proofs.YtbphmpncajfaiaaW.PrintWords
set_option linter.unusedVariables false
set_option linter.unusedSimpArgs false
theorem xor_can_r {a b c : Nat} (h : a ^^^ c = b ^^^ c) : a = b := by
  have h1 : (a ^^^ c) ^^^ c = (b ^^^ c) ^^^ c := by rw [h]
  rwa [Nat.xor_assoc, Nat.xor_assoc, Nat.xor_self, Nat.xor_zero, Nat.xor_zero] at h1
theorem xor_can_l {a b c : Nat} (h : c ^^^ a = c ^^^ b) : a = b := by
  rw [Nat.xor_comm c a, Nat.xor_comm c b] at h
  exact xor_can_r h
theorem high_bit (x : Nat) (h : x < 2147483648) : 2147483648 ≤ x ^^^ 3988292384 := by
  have h1 : (x ^^^ 3988292384).testBit 31 = true := by
    rw [Nat.testBit_xor, Nat.testBit_lt_two_pow (show x < 2 ^ 31 by omega)]
    decide
  exact Nat.ge_two_pow_of_testBit h1
theorem cst_inj {a b : Nat} (ha : a < 4294967296) (hb : b < 4294967296) (h : cst a = cst b) : a = b := by
  unfold cst at h
  by_cases h1 : a % 2 = 1 <;> by_cases h2 : b % 2 = 1
  · rw [if_pos h1, if_pos h2] at h
    have := xor_can_r h
    omega
  · rw [if_pos h1, if_neg h2] at h
    have := high_bit (a / 2) (by omega)
    omega
  · rw [if_neg h1, if_pos h2] at h
    have := high_bit (b / 2) (by omega)
    omega
  · rw [if_neg h1, if_neg h2] at h
    omega
theorem csts_inj : ∀ (n : Nat) {a b : Nat}, a < 4294967296 → b < 4294967296 → csts n a = csts n b → a = b
  | 0, _, _, _, _, h => h
  | n + 1, _, _, ha, hb, h => cst_inj ha hb (csts_inj n (cst_lt ha) (cst_lt hb) h)
theorem cby_inj_r {a b x : Nat} (ha : a < 4294967296) (hb : b < 4294967296) (hx : x < 256) (h : cby a x = cby b x) : a = b :=
  xor_can_r (csts_inj 8 (Nat.xor_lt_two_pow (n := 32) ha (by omega)) (Nat.xor_lt_two_pow (n := 32) hb (by omega)) h)
theorem cby_inj_x {a x y : Nat} (ha : a < 4294967296) (hx : x < 256) (hy : y < 256) (h : cby a x = cby a y) : x = y :=
  xor_can_l (csts_inj 8 (Nat.xor_lt_two_pow (n := 32) ha (by omega)) (Nat.xor_lt_two_pow (n := 32) ha (by omega)) h)
theorem crcs_inj : ∀ (l : List Int) {a b : Nat}, Bytes l → a < 4294967296 → b < 4294967296 → crcs a l = crcs b l → a = b
  | [], _, _, _, _, _, h => h
  | x :: l, a, b, hl, ha, hb, h => by
    have hx : x.toNat < 256 := by have := hl x List.mem_cons_self; omega
    exact cby_inj_r ha hb hx (crcs_inj l (fun y hy => hl y (List.mem_cons_of_mem _ hy)) (cby_lt ha hx) (cby_lt hb hx) h)
theorem xor_inj_l {a b : Nat} (h : (4294967295 ^^^ a : Nat) = 4294967295 ^^^ b) : a = b := xor_can_l h
theorem crc_change {l m : List Int} {x y : Int} (hl : Bytes (l ++ x :: m)) (hy : 0 ≤ y ∧ y < 256) (hne : x ≠ y) : crc (l ++ x :: m) ≠ crc (l ++ y :: m) := by
  intro h
  unfold crc at h
  have h1 := xor_inj_l (Int.ofNat.inj h)
  rw [crcs_append, crcs_append] at h1
  have hx := hl x (List.mem_append_right _ List.mem_cons_self)
  have hm : Bytes m := fun z hz => hl z (List.mem_append_right _ (List.mem_cons_of_mem _ hz))
  have hr := crcs_lt l hl.left (show 4294967295 < 4294967296 by decide)
  have h2 : cby (crcs 4294967295 l) x.toNat = cby (crcs 4294967295 l) y.toNat := crcs_inj m hm (cby_lt hr (by omega)) (cby_lt hr (by omega)) h1
  have h3 := cby_inj_x hr (by omega) (by omega) h2
  omega

/-! #### zeros -/
def force {α : Type} (x : Nat) (f : Nat → α) : α := match x with
  | 0 => f 0
  | k + 1 => f (k + 1)
theorem force_eq {α : Type} (x : Nat) (f : Nat → α) : force x f = f x := by cases x <;> rfl
def zst (r : Nat) (f : Nat → Bool) : Bool := force r fun r => force (if r % 2 = 1 then (r / 2) ^^^ 3988292384 else r / 2) f
theorem zst_eq (r : Nat) (f : Nat → Bool) : zst r f = f (cst r) := by unfold zst cst; rw [force_eq, force_eq]
def zok : Nat → Nat → Nat → Bool
  | 0, r, e => Nat.beq r e
  | n + 1, r, e => zst r fun r => zst r fun r => zst r fun r => zst r fun r => zst r fun r => zst r fun r => zst r fun r => zst r fun r => (!(Nat.beq r 4294967295)) && zok n r e
theorem zok_spec : ∀ (n r e : Nat), zok n r e = true → crcs r (List.replicate n 0) = e ∧ ∀ m, 0 < m → m ≤ n → crcs r (List.replicate m 0) ≠ 4294967295
  | 0, r, e, h => ⟨Nat.eq_of_beq_eq_true h, fun m h0 h1 => by omega⟩
  | n + 1, r, e, h => by
    unfold zok at h
    simp only [zst_eq, Bool.and_eq_true, Bool.not_eq_true'] at h
    have hc : csts 8 r = cby r (0 : Int).toNat := by
      show csts 8 r = csts 8 (r ^^^ 0)
      rw [Nat.xor_zero]
    have h' : zok n (csts 8 r) e = true := h.2
    obtain ⟨h1, h2⟩ := zok_spec n _ e h'
    rw [hc] at h1 h2
    refine ⟨h1, fun m h3 h4 => ?_⟩
    obtain ⟨m, rfl⟩ : ∃ j, m = j + 1 := ⟨m - 1, by omega⟩
    rcases Nat.eq_zero_or_pos m with h5 | h5
    · subst h5
      intro h6
      have h7 : (csts 8 r).beq 4294967295 = false := h.1
      rw [hc] at h7
      have h8 : cby r (0 : Int).toNat = 4294967295 := h6
      rw [h8] at h7
      exact absurd h7 (by decide)
    · exact h2 m h5 (by omega)
theorem zeros_step {r e n : Nat} (h : zok n r e = true) {b m : Nat} (hm : ∀ j, 0 < j → j ≤ m → crcs b (List.replicate j 0) ≠ 4294967295) (hr : crcs b (List.replicate m 0) = r) :
    (∀ j, 0 < j → j ≤ m + n → crcs b (List.replicate j 0) ≠ 4294967295) ∧ crcs b (List.replicate (m + n) 0) = e := by
  obtain ⟨h1, h2⟩ := zok_spec n r e h
  refine ⟨fun j h3 h4 => ?_, ?_⟩
  · by_cases h5 : j ≤ m
    · exact hm j h3 h5
    · obtain ⟨i, rfl⟩ : ∃ i, j = m + i := ⟨j - m, by omega⟩
      rw [← List.replicate_append_replicate, crcs_append, hr]
      exact h2 i (by omega) (by omega)
  · rw [← List.replicate_append_replicate, crcs_append, hr]
    exact h1
theorem z0 : zok 2048 4294967295 236406113 = true := by decide +kernel
theorem z1 : zok 2048 236406113 954466286 = true := by decide +kernel
theorem z2 : zok 2048 954466286 889273536 = true := by decide +kernel
theorem z3 : zok 2048 889273536 655058539 = true := by decide +kernel
theorem z4 : zok 2048 655058539 3638698341 = true := by decide +kernel
theorem z5 : zok 2048 3638698341 1977251091 = true := by decide +kernel
theorem z6 : zok 2048 1977251091 258413747 = true := by decide +kernel
theorem z7 : zok 2048 258413747 1420504441 = true := by decide +kernel
theorem z8 : zok 2048 1420504441 3794880389 = true := by decide +kernel
theorem z9 : zok 2048 3794880389 423853215 = true := by decide +kernel
theorem z10 : zok 2048 423853215 3814604012 = true := by decide +kernel
theorem z11 : zok 2048 3814604012 2436967697 = true := by decide +kernel
theorem z12 : zok 2048 2436967697 3192616470 = true := by decide +kernel
theorem z13 : zok 2048 3192616470 3784167710 = true := by decide +kernel
theorem z14 : zok 2048 3784167710 1433857594 = true := by decide +kernel
theorem z15 : zok 2048 1433857594 4276093785 = true := by decide +kernel
theorem z16 : zok 2048 4276093785 1769530986 = true := by decide +kernel
theorem z17 : zok 2048 1769530986 4187957939 = true := by decide +kernel
theorem z18 : zok 2048 4187957939 883533914 = true := by decide +kernel
theorem z19 : zok 2048 883533914 3553904373 = true := by decide +kernel
theorem z20 : zok 2048 3553904373 1048309661 = true := by decide +kernel
theorem z21 : zok 2048 1048309661 2169559225 = true := by decide +kernel
theorem z22 : zok 2048 2169559225 1015177590 = true := by decide +kernel
theorem z23 : zok 2048 1015177590 3912158200 = true := by decide +kernel
theorem z24 : zok 2048 3912158200 1442228865 = true := by decide +kernel
theorem z25 : zok 2048 1442228865 1831378260 = true := by decide +kernel
theorem z26 : zok 2048 1831378260 1164541182 = true := by decide +kernel
theorem z27 : zok 2048 1164541182 2191555958 = true := by decide +kernel
theorem z28 : zok 2048 2191555958 3385135952 = true := by decide +kernel
theorem z29 : zok 2048 3385135952 333684109 = true := by decide +kernel
theorem z30 : zok 2048 333684109 897221794 = true := by decide +kernel
theorem z31 : zok 2044 897221794 2935265600 = true := by decide +kernel
def ZUp (m e : Nat) : Prop := (∀ j, 0 < j → j ≤ m → crcs 4294967295 (List.replicate j 0) ≠ 4294967295) ∧ crcs 4294967295 (List.replicate m 0) = e
theorem u0 : ZUp 0 4294967295 := ⟨fun j h0 h1 => by omega, rfl⟩
theorem u1 : ZUp 2048 236406113 := zeros_step z0 u0.1 u0.2
theorem u2 : ZUp 4096 954466286 := zeros_step z1 u1.1 u1.2
theorem u3 : ZUp 6144 889273536 := zeros_step z2 u2.1 u2.2
theorem u4 : ZUp 8192 655058539 := zeros_step z3 u3.1 u3.2
theorem u5 : ZUp 10240 3638698341 := zeros_step z4 u4.1 u4.2
theorem u6 : ZUp 12288 1977251091 := zeros_step z5 u5.1 u5.2
theorem u7 : ZUp 14336 258413747 := zeros_step z6 u6.1 u6.2
theorem u8 : ZUp 16384 1420504441 := zeros_step z7 u7.1 u7.2
theorem u9 : ZUp 18432 3794880389 := zeros_step z8 u8.1 u8.2
theorem u10 : ZUp 20480 423853215 := zeros_step z9 u9.1 u9.2
theorem u11 : ZUp 22528 3814604012 := zeros_step z10 u10.1 u10.2
theorem u12 : ZUp 24576 2436967697 := zeros_step z11 u11.1 u11.2
theorem u13 : ZUp 26624 3192616470 := zeros_step z12 u12.1 u12.2
theorem u14 : ZUp 28672 3784167710 := zeros_step z13 u13.1 u13.2
theorem u15 : ZUp 30720 1433857594 := zeros_step z14 u14.1 u14.2
theorem u16 : ZUp 32768 4276093785 := zeros_step z15 u15.1 u15.2
theorem u17 : ZUp 34816 1769530986 := zeros_step z16 u16.1 u16.2
theorem u18 : ZUp 36864 4187957939 := zeros_step z17 u17.1 u17.2
theorem u19 : ZUp 38912 883533914 := zeros_step z18 u18.1 u18.2
theorem u20 : ZUp 40960 3553904373 := zeros_step z19 u19.1 u19.2
theorem u21 : ZUp 43008 1048309661 := zeros_step z20 u20.1 u20.2
theorem u22 : ZUp 45056 2169559225 := zeros_step z21 u21.1 u21.2
theorem u23 : ZUp 47104 1015177590 := zeros_step z22 u22.1 u22.2
theorem u24 : ZUp 49152 3912158200 := zeros_step z23 u23.1 u23.2
theorem u25 : ZUp 51200 1442228865 := zeros_step z24 u24.1 u24.2
theorem u26 : ZUp 53248 1831378260 := zeros_step z25 u25.1 u25.2
theorem u27 : ZUp 55296 1164541182 := zeros_step z26 u26.1 u26.2
theorem u28 : ZUp 57344 2191555958 := zeros_step z27 u27.1 u27.2
theorem u29 : ZUp 59392 3385135952 := zeros_step z28 u28.1 u28.2
theorem u30 : ZUp 61440 333684109 := zeros_step z29 u29.1 u29.2
theorem u31 : ZUp 63488 897221794 := zeros_step z30 u30.1 u30.2
theorem u32 : ZUp 65532 2935265600 := zeros_step z31 u31.1 u31.2
/-- CRC-32 of up to 65532 zeros is not 0. -/
theorem crc_zeros {m : Nat} (h0 : 0 < m) (h1 : m ≤ 65532) : crc (List.replicate m 0) ≠ 0 := by
  intro h
  refine u32.1 m h0 h1 ?_
  unfold crc at h
  have h2 : (4294967295 ^^^ crcs 4294967295 (List.replicate m 0) : Nat) = 0 := by omega
  have h3 : (4294967295 ^^^ crcs 4294967295 (List.replicate m 0) : Nat) = 4294967295 ^^^ 4294967295 := h2.trans (by decide)
  exact xor_inj_l h3
end Go.Proofs.Ytbphmpncajfaiaa.M
