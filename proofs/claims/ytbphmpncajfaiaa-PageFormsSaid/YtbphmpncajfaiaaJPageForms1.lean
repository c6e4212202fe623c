/- Joined: M2, M3, Pyx22, Pyx23, Pyx26, M5, Pyx14, Pyx19, Pyx33, Pyx34, Pyx15, Pyx17, Pyx16 -/
import Derived.Test.YtbphmpncajfaiaaJPageForms0
import Derived.Lib.Bytes
/- Plain: CRC-32 tells every change of one byte; that of up to 65532 zeros is not 0. -/
namespace Go.Proofs.Ytbphmpncajfaiaa.M
open Go.RowKit Go.Proofs.Ytbphmpncajfaiaa.Py Go.Proofs.YtbphmpncajfaiaaW.PrintWords
set_option linter.unusedVariables false
set_option linter.unusedSimpArgs false
theorem xor_can_r {a b c : Nat} (h : a ^^^ c = b ^^^ c) : a = b := by
  have h1 : (a ^^^ c) ^^^ c = (b ^^^ c) ^^^ c := by rw [h]
  rwa [Nat.xor_assoc, Nat.xor_assoc, Nat.xor_self, Nat.xor_zero, Nat.xor_zero] at h1
theorem xor_can_l {a b c : Nat} (h : c ^^^ a = c ^^^ b) : a = b := by
  rw [Nat.xor_comm c a, Nat.xor_comm c b] at h
  exact xor_can_r h
theorem high_bit (x : Nat) (h : x < 2147483648) : 2147483648 ≤ x ^^^ 3988292384 := by
  have h1 : (x ^^^ 3988292384).testBit 31 = true := by
    rw [Nat.testBit_xor, Nat.testBit_lt_two_pow (show x < 2 ^ 31 by omega)]
    decide
  exact Nat.ge_two_pow_of_testBit h1
theorem cst_inj {a b : Nat} (ha : a < 4294967296) (hb : b < 4294967296) (h : cst a = cst b) : a = b := by
  unfold cst at h
  by_cases h1 : a % 2 = 1 <;> by_cases h2 : b % 2 = 1
  · rw [if_pos h1, if_pos h2] at h
    have := xor_can_r h
    omega
  · rw [if_pos h1, if_neg h2] at h
    have := high_bit (a / 2) (by omega)
    omega
  · rw [if_neg h1, if_pos h2] at h
    have := high_bit (b / 2) (by omega)
    omega
  · rw [if_neg h1, if_neg h2] at h
    omega
theorem csts_inj : ∀ (n : Nat) {a b : Nat}, a < 4294967296 → b < 4294967296 → csts n a = csts n b → a = b
  | 0, _, _, _, _, h => h
  | n + 1, _, _, ha, hb, h => cst_inj ha hb (csts_inj n (cst_lt ha) (cst_lt hb) h)
theorem cby_inj_r {a b x : Nat} (ha : a < 4294967296) (hb : b < 4294967296) (hx : x < 256) (h : cby a x = cby b x) : a = b :=
  xor_can_r (csts_inj 8 (Nat.xor_lt_two_pow (n := 32) ha (by omega)) (Nat.xor_lt_two_pow (n := 32) hb (by omega)) h)
theorem cby_inj_x {a x y : Nat} (ha : a < 4294967296) (hx : x < 256) (hy : y < 256) (h : cby a x = cby a y) : x = y :=
  xor_can_l (csts_inj 8 (Nat.xor_lt_two_pow (n := 32) ha (by omega)) (Nat.xor_lt_two_pow (n := 32) ha (by omega)) h)
theorem crcs_inj : ∀ (l : List Int) {a b : Nat}, Bytes l → a < 4294967296 → b < 4294967296 → crcs a l = crcs b l → a = b
  | [], _, _, _, _, _, h => h
  | x :: l, a, b, hl, ha, hb, h => by
    have hx : x.toNat < 256 := by have := hl x List.mem_cons_self; omega
    exact cby_inj_r ha hb hx (crcs_inj l (fun y hy => hl y (List.mem_cons_of_mem _ hy)) (cby_lt ha hx) (cby_lt hb hx) h)
theorem xor_inj_l {a b : Nat} (h : (4294967295 ^^^ a : Nat) = 4294967295 ^^^ b) : a = b := xor_can_l h
theorem crc_change {l m : List Int} {x y : Int} (hl : Bytes (l ++ x :: m)) (hy : 0 ≤ y ∧ y < 256) (hne : x ≠ y) : crc (l ++ x :: m) ≠ crc (l ++ y :: m) := by
  intro h
  unfold crc at h
  have h1 := xor_inj_l (Int.ofNat.inj h)
  rw [crcs_append, crcs_append] at h1
  have hx := hl x (List.mem_append_right _ List.mem_cons_self)
  have hm : Bytes m := fun z hz => hl z (List.mem_append_right _ (List.mem_cons_of_mem _ hz))
  have hr := crcs_lt l hl.left (show 4294967295 < 4294967296 by decide)
  have h2 : cby (crcs 4294967295 l) x.toNat = cby (crcs 4294967295 l) y.toNat := crcs_inj m hm (cby_lt hr (by omega)) (cby_lt hr (by omega)) h1
  have h3 := cby_inj_x hr (by omega) (by omega) h2
  omega

/-! #### zeros -/
def force {α : Type} (x : Nat) (f : Nat → α) : α := match x with
  | 0 => f 0
  | k + 1 => f (k + 1)
theorem force_eq {α : Type} (x : Nat) (f : Nat → α) : force x f = f x := by cases x <;> rfl
def zst (r : Nat) (f : Nat → Bool) : Bool := force r fun r => force (if r % 2 = 1 then (r / 2) ^^^ 3988292384 else r / 2) f
theorem zst_eq (r : Nat) (f : Nat → Bool) : zst r f = f (cst r) := by unfold zst cst; rw [force_eq, force_eq]
def zok : Nat → Nat → Nat → Bool
  | 0, r, e => Nat.beq r e
  | n + 1, r, e => zst r fun r => zst r fun r => zst r fun r => zst r fun r => zst r fun r => zst r fun r => zst r fun r => zst r fun r => (!(Nat.beq r 4294967295)) && zok n r e
theorem zok_spec : ∀ (n r e : Nat), zok n r e = true → crcs r (List.replicate n 0) = e ∧ ∀ m, 0 < m → m ≤ n → crcs r (List.replicate m 0) ≠ 4294967295
  | 0, r, e, h => ⟨Nat.eq_of_beq_eq_true h, fun m h0 h1 => by omega⟩
  | n + 1, r, e, h => by
    unfold zok at h
    simp only [zst_eq, Bool.and_eq_true, Bool.not_eq_true'] at h
    have hc : csts 8 r = cby r (0 : Int).toNat := by
      show csts 8 r = csts 8 (r ^^^ 0)
      rw [Nat.xor_zero]
    have h' : zok n (csts 8 r) e = true := h.2
    obtain ⟨h1, h2⟩ := zok_spec n _ e h'
    rw [hc] at h1 h2
    refine ⟨h1, fun m h3 h4 => ?_⟩
    obtain ⟨m, rfl⟩ : ∃ j, m = j + 1 := ⟨m - 1, by omega⟩
    rcases Nat.eq_zero_or_pos m with h5 | h5
    · subst h5
      intro h6
      have h7 : (csts 8 r).beq 4294967295 = false := h.1
      rw [hc] at h7
      have h8 : cby r (0 : Int).toNat = 4294967295 := h6
      rw [h8] at h7
      exact absurd h7 (by decide)
    · exact h2 m h5 (by omega)
theorem zeros_step {r e n : Nat} (h : zok n r e = true) {b m : Nat} (hm : ∀ j, 0 < j → j ≤ m → crcs b (List.replicate j 0) ≠ 4294967295) (hr : crcs b (List.replicate m 0) = r) :
    (∀ j, 0 < j → j ≤ m + n → crcs b (List.replicate j 0) ≠ 4294967295) ∧ crcs b (List.replicate (m + n) 0) = e := by
  obtain ⟨h1, h2⟩ := zok_spec n r e h
  refine ⟨fun j h3 h4 => ?_, ?_⟩
  · by_cases h5 : j ≤ m
    · exact hm j h3 h5
    · obtain ⟨i, rfl⟩ : ∃ i, j = m + i := ⟨j - m, by omega⟩
      rw [← List.replicate_append_replicate, crcs_append, hr]
      exact h2 i (by omega) (by omega)
  · rw [← List.replicate_append_replicate, crcs_append, hr]
    exact h1
theorem z0 : zok 2048 4294967295 236406113 = true := by decide +kernel
theorem z1 : zok 2048 236406113 954466286 = true := by decide +kernel
theorem z2 : zok 2048 954466286 889273536 = true := by decide +kernel
theorem z3 : zok 2048 889273536 655058539 = true := by decide +kernel
theorem z4 : zok 2048 655058539 3638698341 = true := by decide +kernel
theorem z5 : zok 2048 3638698341 1977251091 = true := by decide +kernel
theorem z6 : zok 2048 1977251091 258413747 = true := by decide +kernel
theorem z7 : zok 2048 258413747 1420504441 = true := by decide +kernel
theorem z8 : zok 2048 1420504441 3794880389 = true := by decide +kernel
theorem z9 : zok 2048 3794880389 423853215 = true := by decide +kernel
theorem z10 : zok 2048 423853215 3814604012 = true := by decide +kernel
theorem z11 : zok 2048 3814604012 2436967697 = true := by decide +kernel
theorem z12 : zok 2048 2436967697 3192616470 = true := by decide +kernel
theorem z13 : zok 2048 3192616470 3784167710 = true := by decide +kernel
theorem z14 : zok 2048 3784167710 1433857594 = true := by decide +kernel
theorem z15 : zok 2048 1433857594 4276093785 = true := by decide +kernel
theorem z16 : zok 2048 4276093785 1769530986 = true := by decide +kernel
theorem z17 : zok 2048 1769530986 4187957939 = true := by decide +kernel
theorem z18 : zok 2048 4187957939 883533914 = true := by decide +kernel
theorem z19 : zok 2048 883533914 3553904373 = true := by decide +kernel
theorem z20 : zok 2048 3553904373 1048309661 = true := by decide +kernel
theorem z21 : zok 2048 1048309661 2169559225 = true := by decide +kernel
theorem z22 : zok 2048 2169559225 1015177590 = true := by decide +kernel
theorem z23 : zok 2048 1015177590 3912158200 = true := by decide +kernel
theorem z24 : zok 2048 3912158200 1442228865 = true := by decide +kernel
theorem z25 : zok 2048 1442228865 1831378260 = true := by decide +kernel
theorem z26 : zok 2048 1831378260 1164541182 = true := by decide +kernel
theorem z27 : zok 2048 1164541182 2191555958 = true := by decide +kernel
theorem z28 : zok 2048 2191555958 3385135952 = true := by decide +kernel
theorem z29 : zok 2048 3385135952 333684109 = true := by decide +kernel
theorem z30 : zok 2048 333684109 897221794 = true := by decide +kernel
theorem z31 : zok 2044 897221794 2935265600 = true := by decide +kernel
def ZUp (m e : Nat) : Prop := (∀ j, 0 < j → j ≤ m → crcs 4294967295 (List.replicate j 0) ≠ 4294967295) ∧ crcs 4294967295 (List.replicate m 0) = e
theorem u0 : ZUp 0 4294967295 := ⟨fun j h0 h1 => by omega, rfl⟩
theorem u1 : ZUp 2048 236406113 := zeros_step z0 u0.1 u0.2
theorem u2 : ZUp 4096 954466286 := zeros_step z1 u1.1 u1.2
theorem u3 : ZUp 6144 889273536 := zeros_step z2 u2.1 u2.2
theorem u4 : ZUp 8192 655058539 := zeros_step z3 u3.1 u3.2
theorem u5 : ZUp 10240 3638698341 := zeros_step z4 u4.1 u4.2
theorem u6 : ZUp 12288 1977251091 := zeros_step z5 u5.1 u5.2
theorem u7 : ZUp 14336 258413747 := zeros_step z6 u6.1 u6.2
theorem u8 : ZUp 16384 1420504441 := zeros_step z7 u7.1 u7.2
theorem u9 : ZUp 18432 3794880389 := zeros_step z8 u8.1 u8.2
theorem u10 : ZUp 20480 423853215 := zeros_step z9 u9.1 u9.2
theorem u11 : ZUp 22528 3814604012 := zeros_step z10 u10.1 u10.2
theorem u12 : ZUp 24576 2436967697 := zeros_step z11 u11.1 u11.2
theorem u13 : ZUp 26624 3192616470 := zeros_step z12 u12.1 u12.2
theorem u14 : ZUp 28672 3784167710 := zeros_step z13 u13.1 u13.2
theorem u15 : ZUp 30720 1433857594 := zeros_step z14 u14.1 u14.2
theorem u16 : ZUp 32768 4276093785 := zeros_step z15 u15.1 u15.2
theorem u17 : ZUp 34816 1769530986 := zeros_step z16 u16.1 u16.2
theorem u18 : ZUp 36864 4187957939 := zeros_step z17 u17.1 u17.2
theorem u19 : ZUp 38912 883533914 := zeros_step z18 u18.1 u18.2
theorem u20 : ZUp 40960 3553904373 := zeros_step z19 u19.1 u19.2
theorem u21 : ZUp 43008 1048309661 := zeros_step z20 u20.1 u20.2
theorem u22 : ZUp 45056 2169559225 := zeros_step z21 u21.1 u21.2
theorem u23 : ZUp 47104 1015177590 := zeros_step z22 u22.1 u22.2
theorem u24 : ZUp 49152 3912158200 := zeros_step z23 u23.1 u23.2
theorem u25 : ZUp 51200 1442228865 := zeros_step z24 u24.1 u24.2
theorem u26 : ZUp 53248 1831378260 := zeros_step z25 u25.1 u25.2
theorem u27 : ZUp 55296 1164541182 := zeros_step z26 u26.1 u26.2
theorem u28 : ZUp 57344 2191555958 := zeros_step z27 u27.1 u27.2
theorem u29 : ZUp 59392 3385135952 := zeros_step z28 u28.1 u28.2
theorem u30 : ZUp 61440 333684109 := zeros_step z29 u29.1 u29.2
theorem u31 : ZUp 63488 897221794 := zeros_step z30 u30.1 u30.2
theorem u32 : ZUp 65532 2935265600 := zeros_step z31 u31.1 u31.2
/-- CRC-32 of up to 65532 zeros is not 0. -/
theorem crc_zeros {m : Nat} (h0 : 0 < m) (h1 : m ≤ 65532) : crc (List.replicate m 0) ≠ 0 := by
  intro h
  refine u32.1 m h0 h1 ?_
  unfold crc at h
  have h2 : (4294967295 ^^^ crcs 4294967295 (List.replicate m 0) : Nat) = 0 := by omega
  have h3 : (4294967295 ^^^ crcs 4294967295 (List.replicate m 0) : Nat) = 4294967295 ^^^ 4294967295 := h2.trans (by decide)
  exact xor_inj_l h3
end Go.Proofs.Ytbphmpncajfaiaa.M
/- Plain: what boxes there are, and what Unbox answers. -/
namespace Go.Proofs.Ytbphmpncajfaiaa.M
open Go.RowKit Go.Proofs.Ytbphmpncajfaiaa.Py Go.Proofs.YtbphmpncajfaiaaW.PrintWords Go.Proofs.YtbphmpncajfaiaaW.PrintLast Go.Proofs.YtbphmpncajfaiaaW.PrintMore
set_option linter.unusedVariables false
set_option linter.unusedSimpArgs false
/-- It answers r, once there are rounds enough. -/
def Comes {α : Type} (f : Nat → Option α) (r : α) : Prop := ∃ K, ∀ k, K ≤ k → f k = some r
theorem Comes.of {α : Type} {f : Nat → Option α} {r : α} (K : Nat) (h : ∀ k, K ≤ k → f k = some r) : Comes f r := ⟨K, h⟩
theorem Comes.bind {α β : Type} {f : Nat → Option α} {g : Nat → α → Option β} {r : α} {q : β} (h : Comes f r) (h' : Comes (fun k => g k r) q) : Comes (fun k => (f k).bind (g k)) q := by
  obtain ⟨K, h⟩ := h
  obtain ⟨K', h'⟩ := h'
  refine ⟨max K K', fun k hk => ?_⟩
  show (f k).bind (g k) = some q
  rw [h k (by omega)]
  exact h' k (by omega)
theorem Comes.step {α : Type} {f g : Nat → Option α} {r : α} (h : Comes g r) (hs : ∀ k, f (k + 1) = g k) : Comes f r := by
  obtain ⟨K, h⟩ := h
  refine ⟨K + 1, fun k hk => ?_⟩
  obtain ⟨k, rfl⟩ : ∃ j, k = j + 1 := ⟨k - 1, by omega⟩
  rw [hs]
  exact h k (by omega)
theorem Comes.congr {α : Type} {f g : Nat → Option α} {r : α} (h : Comes g r) (hs : ∀ k, f k = g k) : Comes f r := by
  obtain ⟨K, h⟩ := h
  exact ⟨K, fun k hk => by rw [hs]; exact h k hk⟩
theorem Comes.now {α : Type} {r : α} : Comes (fun _ => some r) r := ⟨0, fun _ _ => rfl⟩

theorem str_map (l : List Int) : (strOfNums l).toList = l.map fun n => UInt8.ofNat n.toNat := by
  rw [Lib.strOfNums_toList]
  rfl
theorem str_inj : ∀ {l m : List Int}, Bytes l → Bytes m → (strOfNums l).toList = (strOfNums m).toList → l = m := by
  intro l m hl hm h
  rw [str_map, str_map] at h
  induction l generalizing m with
  | nil =>
    cases m with
    | nil => rfl
    | cons y m => simp at h
  | cons x l ih =>
    cases m with
    | nil => simp at h
    | cons y m =>
      rw [List.map_cons, List.map_cons] at h
      injection h with h1 h2
      have hx := hl x List.mem_cons_self
      have hy := hm y List.mem_cons_self
      have h3 : (UInt8.ofNat x.toNat).toNat = (UInt8.ofNat y.toNat).toNat := by rw [h1]
      rw [UInt8.toNat_ofNat', UInt8.toNat_ofNat'] at h3
      rw [ih (fun z hz => hl z (List.mem_cons_of_mem _ hz)) (fun z hz => hm z (List.mem_cons_of_mem _ hz)) h2]
      congr 1
      omega
theorem equal_f {l m : List Int} (hl : Bytes l) (hm : Bytes m) : bytes_Equal.f l m = some (decide (l = m)) := by
  unfold bytes_Equal.f
  congr 1
  by_cases h : l = m
  · subst h
    simp
  · rw [decide_eq_false h]
    exact beq_eq_false_iff_ne.2 (fun e => h (str_inj hl hm e))
theorem clone_f {l : List Int} (hl : l.length < 140737488355328) : slices_Clone_byte_byte.f l = some l := by
  unfold slices_Clone_byte_byte.f
  simp [hl]

def be32 (c : Int) : List Int := [(c / 16777216) % 256, (c / 65536) % 256, (c / 256) % 256, c % 256]
def body (size : Nat) (fl : List Int) : List Int := [((fl.length : Int) / 256) % 256, (fl.length : Int) % 256] ++ fl ++ List.replicate (size - 6 - fl.length) 0
/-- The box of some bytes. -/
def boxOf (size : Int) (fl : List Int) : List Int × Option Int :=
  if size < 6 ∨ 65536 < size then ([], some 1)
  else if size - 6 < fl.length ∨ 65535 < fl.length then ([], some 2)
  else (be32 (crc (body size.toNat fl)) ++ body size.toNat fl, none)
theorem be32_bytes (c : Int) : Bytes (be32 c) := fun x hx => by
  simp only [be32, List.mem_cons, List.not_mem_nil, or_false] at hx
  rcases hx with rfl | rfl | rfl | rfl <;> omega
theorem be32_inj {a b : Int} (ha : 0 ≤ a ∧ a < 4294967296) (hb : 0 ≤ b ∧ b < 4294967296) (h : be32 a = be32 b) : a = b := by
  simp only [be32, List.cons.injEq, and_true] at h
  omega
theorem be32_len (c : Int) : (be32 c).length = 4 := rfl
theorem body_bytes {size : Nat} {fl : List Int} (h : Bytes fl) : Bytes (body size fl) := by
  unfold body
  refine ((Bytes.append (fun x hx => ?_) h).append (Bytes.replicate _))
  simp only [List.mem_cons, List.not_mem_nil, or_false] at hx
  rcases hx with rfl | rfl <;> omega
theorem body_len {size : Nat} {fl : List Int} (h : fl.length + 6 ≤ size) : (body size fl).length = size - 4 := by
  unfold body
  simp
  omega
theorem stamp_head (n c : Int) (fl z : List Int) : stamp (boxHead n ++ fl ++ z) c = be32 c ++ ([(n / 256) % 256, n % 256] ++ fl ++ z) := by
  simp [stamp, boxHead, be32, List.replicate]
theorem head_drop (n : Int) (fl z : List Int) : (boxHead n ++ fl ++ z).drop 4 = [(n / 256) % 256, n % 256] ++ fl ++ z := by
  simp [boxHead, List.replicate]
theorem head_len (n : Int) : (boxHead n).length = 6 := by simp [boxHead]

/-! #### Box -/
theorem box_l1 (a0 : Int) (ha : 6 ≤ a0) (ha' : a0 ≤ 65536) (n : Int) : ∀ (ls ms : List (List Int)) (x9 fl : List Int), x9 = boxHead n ++ fl → x9.length + ls.flatten.length ≤ a0.toNat → Bytes fl → (∀ l ∈ ls, Bytes l) → (ms ++ ls).length ≤ 140737488355328 →
    Comes (fun k => wire_Box.l1 k a0 x9 (ms ++ ls) ((ms ++ ls).length : Int) (ms.length : Int))
      (stamp (boxHead n ++ (fl ++ ls.flatten) ++ List.replicate (a0.toNat - 6 - (fl ++ ls.flatten).length) 0) (crc ((boxHead n ++ (fl ++ ls.flatten) ++ List.replicate (a0.toNat - 6 - (fl ++ ls.flatten).length) 0).drop 4)), none)
  | [], ms, x9, fl, hx, hlen, hf, hb, hl => by
    have hlx : x9.length = 6 + fl.length := by rw [hx, List.length_append, head_len]
    rw [List.flatten_nil, List.length_nil] at hlen
    simp only [List.flatten_nil, List.append_nil]
    rw [← hx]
    have hw : wrap64 (a0 - (x9.length : Int)) = a0 - x9.length := by unfold wrap64; omega
    have hz : (a0 - (x9.length : Int)).toNat = a0.toNat - 6 - fl.length := by omega
    obtain ⟨y, hy⟩ : ∃ y, y = x9 ++ List.replicate (a0.toNat - 6 - fl.length) 0 := ⟨_, rfl⟩
    have hyl : y.length = x9.length + (a0.toNat - 6 - fl.length) := by rw [hy, List.length_append, List.length_replicate]
    have hyb : Bytes (y.drop 4) := by
      rw [hy, hx, head_drop]
      refine (Bytes.append (fun x hx => ?_) hf).append (Bytes.replicate _)
      simp only [List.mem_cons, List.not_mem_nil, or_false] at hx
      rcases hx with rfl | rfl <;> omega
    have hyd : (y.drop 4).length ≤ 140737488355328 := by rw [List.length_drop]; omega
    rw [← hy]
    refine Comes.step (g := fun k => (wire_Check.f k [y.drop 4]).bind fun t142 => some (stamp y t142, none)) ?_ (fun k => ?_)
    · refine Comes.bind (r := crc (y.drop 4)) (Comes.of (wrounds [y.drop 4]) (fun k hk => ?_)) Comes.now
      have h := wire_check (ls := [y.drop 4]) (fun l hl => by rw [List.mem_singleton] at hl; subst hl; exact ⟨hyb, hyd⟩) (by simp) k hk
      rwa [List.flatten_cons, List.flatten_nil, List.append_nil] at h
    · simp only [wire_Box.l1]
      rw [if_neg (by omega), hw, if_pos (by omega), hz, if_pos (by omega), ← hy, Option.bind_some, if_pos (by omega)]
  | l :: ls, ms, x9, fl, hx, hlen, hf, hb, hl => by
    have hl' := hl
    rw [List.length_append, List.length_cons] at hl'
    rw [List.flatten_cons, List.length_append] at hlen
    have ih := box_l1 a0 ha ha' n ls (ms ++ [l]) (x9 ++ l) (fl ++ l) (by rw [hx, List.append_assoc]) (by rw [List.length_append]; omega) (hf.append (hb l List.mem_cons_self)) (fun x hx => hb x (List.mem_cons_of_mem _ hx)) (by simp; omega)
    simp only [List.append_assoc, List.cons_append, List.nil_append, List.flatten_cons] at ih ⊢
    refine Comes.step ih (fun k => ?_)
    simp only [wire_Box.l1]
    rw [if_pos (by simp; omega), if_pos (by omega), if_pos (by simp; omega), rd2_cons, if_pos (by omega), w1 (by omega) (by omega)]
    have e : (((ms ++ [l]).length : Nat) : Int) = (ms.length : Int) + 1 := by simp
    rw [e]
theorem box_l0 (a0 : Int) (ha : 6 ≤ a0) (ha' : a0 ≤ 65536) (all : List (List Int)) (hb : ∀ l ∈ all, Bytes l ∧ l.length ≤ 140737488355328) (hl : all.length ≤ 140737488355328) : ∀ (ls ms : List (List Int)), all = ms ++ ls → ms.flatten.length ≤ 65535 → ms.flatten.length ≤ a0 - 6 →
    Comes (fun k => wire_Box.l0 k a0 all (ms.flatten.length : Int) all (all.length : Int) (ms.length : Int)) (boxOf a0 all.flatten)
  | [], ms, hx, h1, h2 => by
    have hx' : all = ms := by rw [hx, List.append_nil]
    have hlen : (boxHead (ms.flatten.length : Int)).length + all.flatten.length ≤ a0.toNat := by rw [head_len, hx']; omega
    have h := box_l1 a0 ha ha' (ms.flatten.length : Int) all [] (boxHead (ms.flatten.length : Int)) [] (by simp) hlen Bytes.nil (fun l hm => (hb l hm).1) (by simpa using hl)
    refine Comes.step (g := fun k => wire_Box.l1 k a0 (boxHead (ms.flatten.length : Int)) all (all.length : Int) 0) ?_ (fun k => ?_)
    · have hr : boxOf a0 all.flatten = (stamp (boxHead (ms.flatten.length : Int) ++ ([] ++ all.flatten) ++ List.replicate (a0.toNat - 6 - ([] ++ all.flatten).length) 0) (crc ((boxHead (ms.flatten.length : Int) ++ ([] ++ all.flatten) ++ List.replicate (a0.toNat - 6 - ([] ++ all.flatten).length) 0).drop 4)), none) := by
        unfold boxOf
        rw [if_neg (by omega), if_neg (by rw [hx']; omega), head_drop, stamp_head, hx']
        rfl
      rw [hr]
      exact h
    · simp only [wire_Box.l0]
      rw [if_neg (by rw [hx']; omega), if_pos ha, if_pos (by omega)]
  | l :: ls, ms, hx, h1, h2 => by
    have hm := hb l (by rw [hx]; simp)
    have hal : all.length = ms.length + (ls.length + 1) := by rw [hx]; simp
    have hf : all.flatten.length = ms.flatten.length + l.length + ls.flatten.length := by rw [hx]; simp; omega
    have e1 : wrap64 ((ms.flatten.length : Int) + (l.length : Int)) = (ms.flatten.length : Int) + (l.length : Int) := by unfold wrap64; omega
    have e2 : wrap64 (a0 - 6) = a0 - 6 := by unfold wrap64; omega
    have hrd : rd_L2 all (ms.length : Int) = l := by rw [hx]; exact rd2_cons
    by_cases hc : (ms.flatten.length : Int) + (l.length : Int) > a0 - 6 ∨ (ms.flatten.length : Int) + (l.length : Int) > 65535
    · refine Comes.step (g := fun _ => some ([], some 2)) ?_ (fun k => ?_)
      · have hr : boxOf a0 all.flatten = ([], some 2) := by
          unfold boxOf
          rw [if_neg (by omega), if_pos (by omega)]
        rw [hr]
        exact Comes.now
      · simp only [wire_Box.l0]
        rw [if_pos (by omega), if_pos (by omega), if_pos (by omega), hrd, e1, e2]
        by_cases h3 : (ms.flatten.length : Int) + (l.length : Int) > a0 - 6
        · rw [if_pos h3]
        · rw [if_neg h3, if_pos (by omega)]
    · have hfm : (ms ++ [l]).flatten.length = ms.flatten.length + l.length := by simp
      have ih := box_l0 a0 ha ha' all hb hl ls (ms ++ [l]) (by rw [hx]; simp) (by omega) (by omega)
      refine Comes.step ih (fun k => ?_)
      simp only [wire_Box.l0]
      rw [if_pos (by omega), if_pos (by omega), if_pos (by omega), hrd, e1, e2, if_neg (by omega), if_neg (by omega), w1 (by omega) (by omega)]
      have e : (((ms ++ [l]).length : Nat) : Int) = (ms.length : Int) + 1 := by simp
      have e' : (((ms ++ [l]).flatten.length : Nat) : Int) = (ms.flatten.length : Int) + (l.length : Int) := by omega
      rw [e, e']
theorem box_comes (a0 : Int) {ls : List (List Int)} (hb : ∀ l ∈ ls, Bytes l ∧ l.length ≤ 140737488355328) (hl : ls.length ≤ 140737488355328) : Comes (fun k => wire_Box.f k a0 ls) (boxOf a0 ls.flatten) := by
  by_cases h1 : a0 < 6
  · have hr : boxOf a0 ls.flatten = ([], some 1) := by unfold boxOf; rw [if_pos (by omega)]
    rw [hr]
    refine Comes.step (g := fun _ => some ([], some 1)) Comes.now (fun k => ?_)
    simp only [wire_Box.f, wire_Box.j0]
    rw [if_pos h1]
    rfl
  · by_cases h2 : a0 > 65536
    · have hr : boxOf a0 ls.flatten = ([], some 1) := by unfold boxOf; rw [if_pos (by omega)]
      rw [hr]
      refine Comes.step (g := fun _ => some ([], some 1)) Comes.now (fun k => ?_)
      simp only [wire_Box.f, wire_Box.j0]
      rw [if_neg h1, if_pos (decide_eq_true h2)]
    · have h := box_l0 a0 (by omega) (by omega) ls hb hl ls [] (by simp) (by simp) (by simp; omega)
      refine Comes.step h (fun k => ?_)
      simp only [wire_Box.f, wire_Box.j0]
      rw [if_neg h1, if_neg (by simpa using h2)]
      rfl

/-! #### Unbox -/
def unboxOf (b : List Int) : List Int × Option Int :=
  if b.length < 6 ∨ 65536 < b.length then ([], some 4)
  else if (b.length : Int) - 6 < 256 * rd b 4 + rd b 5 then ([], some 4)
  else if boxOf b.length ((b.take (6 + (256 * rd b 4 + rd b 5)).toNat).drop 6) = (b, none) then ((b.take (6 + (256 * rd b 4 + rd b 5)).toNat).drop 6, none)
  else ([], some 4)
theorem boxOf_bytes {size : Int} {fl : List Int} (h : Bytes fl) : Bytes (boxOf size fl).1 := by
  unfold boxOf
  split
  · exact Bytes.nil
  · split
    · exact Bytes.nil
    · exact (be32_bytes _).append (body_bytes h)
theorem unbox_comes {b : List Int} (hb : Bytes b) (hl : b.length ≤ 140737488355328) : Comes (fun k => wire_Unbox.f k b) (unboxOf b) := by
  by_cases h1 : (b.length : Int) < 6
  · have hr : unboxOf b = ([], some 4) := by unfold unboxOf; rw [if_pos (by omega)]
    rw [hr]
    refine Comes.step (g := fun _ => some ([], some 4)) Comes.now (fun k => ?_)
    simp only [wire_Unbox.f, wire_Unbox.j0]
    rw [if_pos h1]
    rfl
  · by_cases h2 : (b.length : Int) > 65536
    · have hr : unboxOf b = ([], some 4) := by unfold unboxOf; rw [if_pos (by omega)]
      rw [hr]
      refine Comes.step (g := fun _ => some ([], some 4)) Comes.now (fun k => ?_)
      simp only [wire_Unbox.f, wire_Unbox.j0]
      rw [if_neg h1, if_pos (decide_eq_true h2)]
    · have r4 := rd_bytes hb 4 (by omega)
      have r5 := rd_bytes hb 5 (by omega)
      have e4 : wrap64 (wrap64 (rd b 4) * 256) = rd b 4 * 256 := by unfold wrap64; omega
      have e5 : wrap64 (rd b 5) = rd b 5 := by unfold wrap64; omega
      have eo : bits .or .i64 (rd b 4 * 256) (rd b 5) = 256 * rd b 4 + rd b 5 := by
        rw [bits_join .i64 63 (by decide) (fun n h0 h1 => by rw [IntKind.wrap_i64]; omega) 8 _ _ (by omega) (by omega) (by omega) (by omega) (by omega) (by omega)]
        omega
      have e6 : wrap64 ((b.length : Int) - 6) = b.length - 6 := by unfold wrap64; omega
      have e7 : wrap64 (6 + (256 * rd b 4 + rd b 5)) = 6 + (256 * rd b 4 + rd b 5) := by unfold wrap64; omega
      by_cases h3 : (b.length : Int) - 6 < 256 * rd b 4 + rd b 5
      · have hr : unboxOf b = ([], some 4) := by unfold unboxOf; rw [if_neg (by omega), if_pos h3]
        rw [hr]
        refine Comes.step (g := fun _ => some ([], some 4)) Comes.now (fun k => ?_)
        simp only [wire_Unbox.f, wire_Unbox.j0]
        rw [if_neg h1, if_neg (by simpa using h2), if_pos (by omega), if_pos (by omega), e4, e5, eo, e6, if_pos (by omega)]
      · generalize hin : (b.take (6 + (256 * rd b 4 + rd b 5)).toNat).drop 6 = inn
        have hinb : Bytes inn := by rw [← hin]; exact (hb.take _).drop 6
        have hinl : inn.length ≤ b.length := by rw [← hin]; simp; omega
        have hbx := box_comes (b.length : Int) (ls := [inn]) (fun l hl => by rw [List.mem_singleton] at hl; subst hl; exact ⟨hinb, by omega⟩) (by simp)
        have hr : unboxOf b = if boxOf b.length inn = (b, none) then (inn, none) else ([], some 4) := by unfold unboxOf; rw [if_neg (by omega), if_neg h3, hin]
        rw [hr]
        refine Comes.step (g := fun k => (wire_Box.f k (b.length : Int) [inn]).bind fun bt275 => (if bt275.2.isNone = true then ((bytes_Equal.f bt275.1 b).bind fun t280 => (if t280 = true then (some (inn, none)) else (some (([] : List Int), some 4)))) else (some (([] : List Int), some 4)))) ?_ (fun k => ?_)
        · refine Comes.bind hbx ?_
          have hfl : [inn].flatten = inn := by simp
          rw [hfl]
          have hbb := boxOf_bytes (size := (b.length : Int)) hinb
          generalize boxOf (b.length : Int) inn = bx at hbb ⊢
          obtain ⟨bl, be⟩ := bx
          cases be with
          | some e =>
            rw [if_neg (show ¬ ((bl, some e) = (b, (none : Option Int))) from fun q => by injection q with _ q; cases q)]
            exact Comes.congr (g := fun _ => some ([], some 4)) Comes.now (fun k => rfl)
          | none =>
            refine Comes.congr (g := fun _ => some (if (bl, (none : Option Int)) = (b, none) then (inn, none) else ([], some 4))) Comes.now (fun k => ?_)
            simp only [Option.isNone_none, if_true]
            rw [equal_f hbb hb]
            simp only [Option.bind_some]
            by_cases hq : bl = b
            · subst hq
              simp
            · rw [decide_eq_false hq, if_neg (by decide), if_neg (by simpa using hq)]
        · simp only [wire_Unbox.f, wire_Unbox.j0]
          rw [if_neg h1, if_neg (by simpa using h2), if_pos (by omega), if_pos (by omega), e4, e5, eo, e6, if_neg (by omega), e7, if_pos (by omega), if_pos (by omega), hin, clone_f (by omega)]
          rfl
/-! #### what a box is -/
theorem boxOf_ok {size : Int} {fl : List Int} (h : (boxOf size fl).2 = none) : 6 ≤ size ∧ size ≤ 65536 ∧ fl.length + 6 ≤ size ∧ fl.length ≤ 65535 ∧ (boxOf size fl).1 = be32 (crc (body size.toNat fl)) ++ body size.toNat fl := by
  unfold boxOf at h ⊢
  split at h
  · cases h
  · split at h
    · cases h
    · rename_i h1 h2
      rw [if_neg h1, if_neg h2]
      exact ⟨by omega, by omega, by omega, by omega, rfl⟩
theorem boxOf_len {size : Int} {fl : List Int} (h : (boxOf size fl).2 = none) : ((boxOf size fl).1.length : Int) = size := by
  obtain ⟨h1, h2, h3, h4, h5⟩ := boxOf_ok h
  rw [h5, List.length_append, be32_len, body_len (by omega)]
  omega
theorem boxOf_err {size : Int} {fl : List Int} {e : Int} (h : (boxOf size fl).2 = some e) : (boxOf size fl).1 = [] := by
  unfold boxOf at h ⊢
  split at h
  · rename_i h1
    rw [if_pos h1]
  · rename_i h1
    rw [if_neg h1]
    split at h
    · rename_i h2
      rw [if_pos h2]
    · cases h
theorem boxOf_sum {size : Int} {fl : List Int} (h : (boxOf size fl).2 = none) : (boxOf size fl).1.take 4 = be32 (crc ((boxOf size fl).1.drop 4)) := by
  obtain ⟨h1, h2, h3, h4, h5⟩ := boxOf_ok h
  rw [h5]
  simp [be32]
/-- What Unbox takes has its sum ahead. -/
theorem unbox_sum {b : List Int} (h : (unboxOf b).2 = none) : 6 ≤ b.length ∧ b.length ≤ 65536 ∧ b.take 4 = be32 (crc (b.drop 4)) := by
  unfold unboxOf at h
  split at h
  · cases h
  · split at h
    · cases h
    · split at h
      · rename_i h1 h2 h3
        have h4 : (boxOf (b.length : Int) ((b.take (6 + (256 * rd b 4 + rd b 5)).toNat).drop 6)).2 = none := by rw [h3]
        have h5 := boxOf_sum h4
        rw [h3] at h5
        exact ⟨by omega, by omega, h5⟩
      · cases h
theorem unbox_err {b : List Int} (h : (unboxOf b).2 ≠ none) : unboxOf b = ([], some 4) := by
  unfold unboxOf at h ⊢
  split at h
  · rename_i h1
    rw [if_pos h1]
  · rename_i h1
    rw [if_neg h1]
    split at h
    · rename_i h2
      rw [if_pos h2]
    · rename_i h2
      rw [if_neg h2]
      split at h
      · exact absurd rfl h
      · rename_i h3
        rw [if_neg h3]
theorem unbox_zeros (m : Nat) : unboxOf (List.replicate m 0) = ([], some 4) := by
  apply unbox_err
  intro h
  obtain ⟨h1, h2, h3⟩ := unbox_sum h
  rw [List.length_replicate] at h1 h2
  rw [List.take_replicate, List.drop_replicate, Nat.min_eq_left (by omega)] at h3
  have h4 : be32 0 = be32 (crc (List.replicate (m - 4) 0)) := by rw [← h3]; rfl
  exact crc_zeros (m := m - 4) (by omega) (by omega) (be32_inj (by omega) (crc_range (Bytes.replicate _)) h4).symm
theorem set_split {l : List Int} {i : Nat} (h : i < l.length) (y : Int) : ∃ a x b, l = a ++ x :: b ∧ l.set i y = a ++ y :: b ∧ x = l[i] ∧ a.length = i := by
  refine ⟨l.take i, l[i], l.drop (i + 1), ?_, ?_, rfl, by rw [List.length_take]; omega⟩
  · rw [List.getElem_cons_drop, List.take_append_drop]
  · rw [List.set_eq_take_append_cons_drop, if_pos h]
/-- A box with one byte changed is none. -/
theorem unbox_change {size : Int} {fl : List Int} (hf : Bytes fl) (h : (boxOf size fl).2 = none) {i : Nat} (hi : i < (boxOf size fl).1.length) {y : Int} (hy : 0 ≤ y ∧ y < 256) (hne : (boxOf size fl).1[i] ≠ y) :
    unboxOf ((boxOf size fl).1.set i y) = ([], some 4) := by
  apply unbox_err
  intro hu
  obtain ⟨h1, h2, h3⟩ := unbox_sum hu
  have h4 := boxOf_sum h
  have hb := boxOf_bytes (size := size) hf
  generalize (boxOf size fl).1 = L at *
  rw [List.length_set] at h1 h2
  by_cases h5 : i < 4
  · rw [List.drop_set, if_pos h5, ← h4] at h3
    have h6 : (L.set i y).take 4 = L.take 4 := h3
    have h7 : ((L.set i y).take 4)[i]? = (L.take 4)[i]? := by rw [h6]
    rw [List.getElem?_take_of_lt h5, List.getElem?_take_of_lt h5, List.getElem?_set_self (by omega), List.getElem?_eq_getElem hi] at h7
    injection h7 with h7
    exact hne h7.symm
  · rw [List.take_set_of_le (by omega), h4] at h3
    have h6 := be32_inj (crc_range (hb.drop 4)) (crc_range (Bytes.drop (fun x hx => ?_) 4)) h3
    · rw [List.drop_set, if_neg h5] at h6
      have hi' : i - 4 < (L.drop 4).length := by rw [List.length_drop]; omega
      obtain ⟨a, x, b, e1, e2, e3, e4⟩ := set_split hi' y
      rw [e2] at h6
      rw [e1] at h6
      refine crc_change (e1 ▸ hb.drop 4) hy (fun e => hne ?_) h6
      rw [← e, e3, List.getElem_drop]
      congr 1
      omega
    · rcases List.mem_or_eq_of_mem_set hx with h7 | h7
      · exact hb x h7
      · rw [h7]
        exact hy
end Go.Proofs.Ytbphmpncajfaiaa.M
-- PRINTED by print.py (a twelfth state) out of the translation. Not trusted: Lean checks it.
namespace Go.Proofs.Ytbphmpncajfaiaa.Py
open Go.RowKit Go.Proofs.YtbphmpncajfaiaaW.PrintWords Go.Proofs.YtbphmpncajfaiaaW.PrintLast Go.Proofs.YtbphmpncajfaiaaW.PrintMore
attribute [local go_sem] max2_int min2_int max_two min_two max_three min_three max_four min_four   -- for this text's walks alone
set_option linter.unusedVariables false
set_option linter.unusedSimpArgs false

/-! ### palimpsestref02_Box: function 27 -/
mutual
def palimpsestref02_Box.j0 : Nat → Int → List Int → Bool → Option (List Int × Int)
  | 0, _, _, _ => none
  | k + 1, x0, x1, x13 => if x13 = true then (some (([] : List Int), 1)) else (if (x1.length : Int) > (wrap64 (x0 - 6)) then (palimpsestref02_Box.j1 k x0 x1 true) else (palimpsestref02_Box.j1 k x0 x1 (decide ((x1.length : Int) > 65535))))
def palimpsestref02_Box.j1 : Nat → Int → List Int → Bool → Option (List Int × Int)
  | 0, _, _, _ => none
  | k + 1, x0, x1, x23 => if x23 = true then (some (([] : List Int), 2)) else ((some (([(wrap64 ((x1.length : Int) / 256)) % 256, (x1.length : Int) % 256] : List Int) : List Int)).bind fun y249 => (if y249.length + x1.length < 140737488355328 then (palimpsestref02_Box.l0 k x0 (y249 ++ x1)) else (none)))
def palimpsestref02_Box.l0 : Nat → Int → List Int → Option (List Int × Int)
  | 0, _, _ => none
  | k + 1, x0, x6 => if (x6.length : Int) < (wrap64 (x0 - 4)) then (if x6.length < 140737488355328 then (palimpsestref02_Box.l0 k x0 (x6 ++ [0])) else (none)) else ((palimpsestref02_Check.f k x6).bind fun t258 => ((some (([(t258 / 16777216) % 256, (t258 / 65536) % 256, (t258 / 256) % 256, (t258) % 256] : List Int) : List Int)).bind fun y259 => (if y259.length + x6.length < 140737488355328 then (some ((y259 ++ x6), 0)) else (none))))
end
def palimpsestref02_Box.f (k : Nat) (a0 : Int) (l1 : List Int) : Option (List Int × Int) := if a0 < 6 then (palimpsestref02_Box.j0 k a0 l1 true) else (palimpsestref02_Box.j0 k a0 l1 (decide (a0 > 65536)))
theorem palimpsestref02_Box.mono_l : ∀ k, (∀ y0 y1 y2, LeO (palimpsestref02_Box.j0 k y0 y1 y2) (palimpsestref02_Box.j0 (k + 1) y0 y1 y2)) ∧ (∀ y0 y1 y2, LeO (palimpsestref02_Box.j1 k y0 y1 y2) (palimpsestref02_Box.j1 (k + 1) y0 y1 y2)) ∧ (∀ y0 y1, LeO (palimpsestref02_Box.l0 k y0 y1) (palimpsestref02_Box.l0 (k + 1) y0 y1))
  | 0 => ⟨fun _ _ _ r h => by simp [palimpsestref02_Box.j0] at h, fun _ _ _ r h => by simp [palimpsestref02_Box.j1] at h, fun _ _ r h => by simp [palimpsestref02_Box.l0] at h⟩
  | k + 1 => by
    obtain ⟨ih0, ih1, ih2⟩ := palimpsestref02_Box.mono_l k
    refine ⟨?_, ?_, ?_⟩
    · intro y0 y1 y2
      unfold palimpsestref02_Box.j0
      repeat' first
      | (with_reducible exact ih0 _ _ _)
      | (with_reducible exact ih1 _ _ _)
      | (with_reducible exact ih2 _ _)
      | (with_reducible exact palimpsestref02_Check.mono _ _)
      | (with_reducible exact LeO.refl _)
      | (with_reducible exact LeO.none _)
      | (with_reducible refine LeO.ite ?_ ?_)
      | (with_reducible refine LeO.bind ?_ (fun _ => ?_))
      | exact ih0 _ _ _
      | exact ih1 _ _ _
      | exact ih2 _ _
      | exact palimpsestref02_Check.mono _ _
      | exact LeO.none _
      | refine LeO.ite ?_ ?_
      | refine LeO.bind ?_ (fun _ => ?_)
    · intro y0 y1 y2
      unfold palimpsestref02_Box.j1
      repeat' first
      | (with_reducible exact ih0 _ _ _)
      | (with_reducible exact ih1 _ _ _)
      | (with_reducible exact ih2 _ _)
      | (with_reducible exact palimpsestref02_Check.mono _ _)
      | (with_reducible exact LeO.refl _)
      | (with_reducible exact LeO.none _)
      | (with_reducible refine LeO.ite ?_ ?_)
      | (with_reducible refine LeO.bind ?_ (fun _ => ?_))
      | exact ih0 _ _ _
      | exact ih1 _ _ _
      | exact ih2 _ _
      | exact palimpsestref02_Check.mono _ _
      | exact LeO.none _
      | refine LeO.ite ?_ ?_
      | refine LeO.bind ?_ (fun _ => ?_)
    · intro y0 y1
      unfold palimpsestref02_Box.l0
      repeat' first
      | (with_reducible exact ih0 _ _ _)
      | (with_reducible exact ih1 _ _ _)
      | (with_reducible exact ih2 _ _)
      | (with_reducible exact palimpsestref02_Check.mono _ _)
      | (with_reducible exact LeO.refl _)
      | (with_reducible exact LeO.none _)
      | (with_reducible refine LeO.ite ?_ ?_)
      | (with_reducible refine LeO.bind ?_ (fun _ => ?_))
      | exact ih0 _ _ _
      | exact ih1 _ _ _
      | exact ih2 _ _
      | exact palimpsestref02_Check.mono _ _
      | exact LeO.none _
      | refine LeO.ite ?_ ?_
      | refine LeO.bind ?_ (fun _ => ?_)
theorem palimpsestref02_Box.mono : ∀ a0 a1 k, LeO (palimpsestref02_Box.f k a0 a1) (palimpsestref02_Box.f (k + 1) a0 a1) := by
  intro a0 a1 k
  obtain ⟨ih0, ih1, ih2⟩ := palimpsestref02_Box.mono_l k
  unfold palimpsestref02_Box.f
  repeat' first
      | (with_reducible exact ih0 _ _ _)
      | (with_reducible exact ih1 _ _ _)
      | (with_reducible exact ih2 _ _)
      | (with_reducible exact palimpsestref02_Check.mono _ _)
      | (with_reducible exact LeO.refl _)
      | (with_reducible exact LeO.none _)
      | (with_reducible refine LeO.ite ?_ ?_)
      | (with_reducible refine LeO.bind ?_ (fun _ => ?_))
      | exact ih0 _ _ _
      | exact ih1 _ _ _
      | exact ih2 _ _
      | exact palimpsestref02_Check.mono _ _
      | exact LeO.none _
      | refine LeO.ite ?_ ?_
      | refine LeO.bind ?_ (fun _ => ?_)
set_option maxHeartbeats 8000000 in
set_option maxRecDepth 100000 in
theorem palimpsestref02_Box.calls (k : Nat) (a0 : Int) (A1 : Option Addr) (c1 : Nat) (l1 : List Int) (r1 : List Int) (r2 : Int) (w : World) (hr1 : Kd.C (Kd.int .u8) w A1 l1.length l1) (hc1 : l1.length ≤ c1) (h : palimpsestref02_Box.f k a0 l1 = some (r1, r2)) :
    Calls Try.prog 27 #[.int .i64 a0, .slice A1 l1.length c1] w fun e w' => ∃ v0_ : Value, e = .returned (.tuple #[v0_, .int .i64 r2]) ∧ Kd.R (Kd.int .u8) 5 w' w.heap.size (fun _ => True) v0_ r1 ∧ Below w.heap.size w w' := by
  have HR1 := Aside0.mk hr1
  have HC1 := Aside0.mk hc1
  clear hr1 hc1
  have HB := Aside0.mk (Below.refl w.heap.size w)
  have H : (if a0 < 6 then (palimpsestref02_Box.j0 k a0 l1 true) else (palimpsestref02_Box.j0 k a0 l1 (decide (a0 > 65536)))) = some (r1, r2) := h
  clear h
  have HC3 := Aside0.mk H
  clear H
  go_enter Try.func27, Try.ntmps27
  go_upto_region 1 with (fail)
  go_cut [13] (fun v13 wc => ∃ (kq : Nat) (x13_2 : Bool), v13 = .bool x13_2 ∧ Aside0 (palimpsestref02_Box.j0 kq a0 l1 x13_2 = some (r1, r2)) ∧ Aside0 (kq ≤ k) ∧ Aside0 (Below w.heap.size w wc))
  case first =>
    have H := HC3.out
    clear HC3
    by_cases c4 : a0 < 6
    · rw [if_pos c4] at H
      have c4b0 : decide (a0 < 6) = true := decide_eq_true c4
      clear c4
      (first | rw [c4b0] | (simp only [i64_w, i32_w]; rw [c4b0]) | skip)
      have H' := Aside0.mk H
      clear H
      go_wp2
      go_meet
      case rel => exact ⟨_, (true), (by first | rfl | (simp; done) | (simp [*]; done)), H', ⟨by first | omega | exact Nat.le_refl _⟩, ⟨by repeat (first | (with_reducible first | exact HB.out | apply below_alloc | apply pw_below_drewN | apply below_drew1) | exact HB.out)⟩⟩
    · rw [if_neg c4] at H
      have c4b0 : decide (a0 < 6) = false := decide_eq_false c4
      clear c4
      (first | rw [c4b0] | (simp only [i64_w, i32_w]; rw [c4b0]) | skip)
      have H' := Aside0.mk H
      clear H
      go_wp2
      go_meet
      case rel => exact ⟨_, (decide (a0 > 65536)), (by first | rfl | (simp; done) | (simp [*]; done)), H', ⟨by first | omega | exact Nat.le_refl _⟩, ⟨by repeat (first | (with_reducible first | exact HB.out | apply below_alloc | apply pw_below_drewN | apply below_drew1) | exact HB.out)⟩⟩
  case rest =>
    clear HC3
    try clear c1
    try clear c2
    try clear p2
    try clear c4
    try clear c4b0
    obtain ⟨kq, x13_2, rfl, HA, HJ2, HB⟩ := hcut
    cases kq with
    | zero => exact absurd HA.out (by simp [palimpsestref02_Box.j0])
    | succ kj2 =>
      have H := HA.out
      clear HA
      simp only [palimpsestref02_Box.j0] at H
      by_cases c5 : x13_2 = true
      · subst c5
        have H1 : (some (([] : List Int), 1)) = some (r1, r2) := by rw [if_pos rfl] at H; exact H
        clear H
        have H := H1
        clear H1
        simp only [Option.some.injEq, Prod.mk.injEq] at H
        obtain ⟨rfl, rfl⟩ := H
        go_wp2
        go_ret2
        exact ⟨_, by first | rfl | (simp [errW_none, errW_some] <;> rfl) | (simp [*, errW_none, errW_some] <;> rfl), by first | exact Kd.R_nil _ _ _ _ _ | exact Kd.N_nil _ _ _ _ _ | exact Kd.V_nil _ _ _ _ _ | exact Kd.Q_nil _ _ _ _ _ | exact Kd.S_nil _ _ _ _ _, by repeat (first | (with_reducible first | exact HB.out | apply below_alloc | apply pw_below_drewN | apply below_drew1) | exact HB.out)⟩
      · replace c5 := Bool.eq_false_iff.mpr c5
        subst c5
        have H1 : (if (l1.length : Int) > (wrap64 (a0 - 6)) then (palimpsestref02_Box.j1 kj2 a0 l1 true) else (palimpsestref02_Box.j1 kj2 a0 l1 (decide ((l1.length : Int) > 65535)))) = some (r1, r2) := by rw [if_neg (show ¬ (false = true) by decide)] at H; exact H
        clear H
        have H := H1
        clear H1
        have HC6 := Aside0.mk H
        clear H
        go_upto_region 3 with (fail)
        go_cut [23] (fun v23 wc => ∃ (kq : Nat) (x23_5 : Bool), v23 = .bool x23_5 ∧ Aside0 (palimpsestref02_Box.j1 kq a0 l1 x23_5 = some (r1, r2)) ∧ Aside0 (kq ≤ kj2) ∧ Aside0 (Below w.heap.size w wc))
        case first =>
          have H := HC6.out
          clear HC6
          by_cases c7 : (l1.length : Int) > (wrap64 (a0 - 6))
          · rw [if_pos c7] at H
            have c7b0 : decide ((wrap64 (a0 - 6)) < (l1.length : Int)) = true := decide_eq_true c7
            clear c7
            (first | rw [c7b0] | (simp only [i64_w, i32_w]; rw [c7b0]) | skip)
            have H' := Aside0.mk H
            clear H
            go_wp2
            go_meet
            case rel => exact ⟨_, (true), (by first | rfl | (simp; done) | (simp [*]; done)), H', ⟨by have := HJ2.out; first | omega | exact Nat.le_refl _⟩, ⟨by repeat (first | (with_reducible first | exact HB.out | apply below_alloc | apply pw_below_drewN | apply below_drew1) | exact HB.out)⟩⟩
          · rw [if_neg c7] at H
            have c7b0 : decide ((wrap64 (a0 - 6)) < (l1.length : Int)) = false := decide_eq_false c7
            clear c7
            (first | rw [c7b0] | (simp only [i64_w, i32_w]; rw [c7b0]) | skip)
            have H' := Aside0.mk H
            clear H
            go_wp2
            go_meet
            case rel => exact ⟨_, (decide ((l1.length : Int) > 65535)), (by first | rfl | (simp; done) | (simp [*]; done)), H', ⟨by have := HJ2.out; first | omega | exact Nat.le_refl _⟩, ⟨by repeat (first | (with_reducible first | exact HB.out | apply below_alloc | apply pw_below_drewN | apply below_drew1) | exact HB.out)⟩⟩
        case rest =>
          clear HC6
          try clear c1
          try clear c2
          try clear p2
          try clear c4
          try clear c4b0
          try clear c5
          try clear p6
          try clear c7
          try clear c7b0
          try clear p2
          obtain ⟨kq, x23_5, rfl, HA, HJ5, HB⟩ := hcut
          cases kq with
          | zero => exact absurd HA.out (by simp [palimpsestref02_Box.j1])
          | succ kj5 =>
            have H := HA.out
            clear HA
            simp only [palimpsestref02_Box.j1] at H
            by_cases c8 : x23_5 = true
            · subst c8
              have H1 : (some (([] : List Int), 2)) = some (r1, r2) := by rw [if_pos rfl] at H; exact H
              clear H
              have H := H1
              clear H1
              simp only [Option.some.injEq, Prod.mk.injEq] at H
              obtain ⟨rfl, rfl⟩ := H
              go_wp2
              go_ret2
              exact ⟨_, by first | rfl | (simp [errW_none, errW_some] <;> rfl) | (simp [*, errW_none, errW_some] <;> rfl), by first | exact Kd.R_nil _ _ _ _ _ | exact Kd.N_nil _ _ _ _ _ | exact Kd.V_nil _ _ _ _ _ | exact Kd.Q_nil _ _ _ _ _ | exact Kd.S_nil _ _ _ _ _, by repeat (first | (with_reducible first | exact HB.out | apply below_alloc | apply pw_below_drewN | apply below_drew1) | exact HB.out)⟩
            · replace c8 := Bool.eq_false_iff.mpr c8
              subst c8
              have H1 : ((some (([(wrap64 ((l1.length : Int) / 256)) % 256, (l1.length : Int) % 256] : List Int) : List Int)).bind fun y249 => (if y249.length + l1.length < 140737488355328 then (palimpsestref02_Box.l0 kj5 a0 (y249 ++ l1)) else (none))) = some (r1, r2) := by rw [if_neg (show ¬ (false = true) by decide)] at H; exact H
              clear H
              have H := H1
              clear H1
              obtain ⟨y249, hy249⟩ : ∃ y_ : List Int, y_ = (([(wrap64 ((l1.length : Int) / 256)) % 256, (l1.length : Int) % 256] : List Int)) := ⟨_, rfl⟩
              replace H : (if y249.length + l1.length < 140737488355328 then (palimpsestref02_Box.l0 kj5 a0 (y249 ++ l1)) else (none)) = some (r1, r2) := by first | (rw [hy249]; with_reducible exact H) | (have H2_ := (Option.bind_some _ _).symm.trans H; rw [hy249]; with_reducible exact H2_) | (have H2_ := (Option.bind_some _ _).symm.trans H; with_reducible exact H2_) | with_reducible exact H | (rw [hy249]; exact H) | exact H
              have Ny249 := Aside0.mk hy249
              clear hy249
              by_cases c9 : y249.length + l1.length < 140737488355328
              · rw [if_pos c9] at H
                have LMc9 := Aside0.mk c9
                clear c9
                obtain ⟨y252, hy252⟩ : ∃ y_ : List Int, y_ = (y249 ++ l1) := ⟨_, rfl⟩
                replace H : (palimpsestref02_Box.l0 kj5 a0 y252) = some (r1, r2) := by first | (rw [hy252]; with_reducible exact H) | (have H2_ := (Option.bind_some _ _).symm.trans H; rw [hy252]; with_reducible exact H2_) | (have H2_ := (Option.bind_some _ _).symm.trans H; with_reducible exact H2_) | with_reducible exact H | (rw [hy252]; exact H) | exact H
                have Ny252 := Aside0.mk hy252
                clear hy252
                have H' := Aside0.mk H
                clear H
                go_wp2_with (first | ((with_reducible refine gate_dst (N := 32) rfl ?_); (try (refine gate_guard (by rfl) ?_; dsimp only)); refine Kd.R_lit (Kd.int .u8) _ 5 ?hg (N := 32) ?hd (xs := ([(wrap64 ((l1.length : Int) / 256)) % 256, (l1.length : Int) % 256] : List Int)) (inner := [.int .u8 ((wrap64 ((l1.length : Int) / 256)) % 256), .int .u8 ((l1.length : Int) % 256)]) (ok := fun _ => True) (okp := fun _ => True) ?hr ?hp (fun _ hk => hk) trivial (Below.refl _ _) (Nat.le_refl _) (by simp) ?_; (case hd => rfl); (case hg => rfl); (case hr => first | (go_simp; done) | (go_simp; rfl)); (case hp => exact (Reps.one (show Kd.M (Kd.int .u8) _ _ _ ((wrap64 ((l1.length : Int) / 256)) % 256) [.int .u8 ((wrap64 ((l1.length : Int) / 256)) % 256)] from rfl) (Reps.one (show Kd.M (Kd.int .u8) _ _ _ ((l1.length : Int) % 256) [.int .u8 ((l1.length : Int) % 256)] from rfl) (Reps.none _ _)))); intro v250 w10 ho11 hb hg_ hnew_; clear hg_ hnew_; (first | rw [← Ny249.out] at ho11 | (simp only [Int.reduceToNat] at ho11; rw [← Ny249.out] at ho11)); have n0_ := Aside0.mk (Kd.R_lower ho11 (below_size (by repeat (first | (with_reducible first | exact HB.out | apply below_alloc | apply pw_below_drewN | apply below_drew1) | exact HB.out)))); have n1_ := Aside0.mk (below_step (by repeat (first | (with_reducible first | exact HB.out | apply below_alloc | apply pw_below_drewN | apply below_drew1) | exact HB.out)) hb); clear HB; have HO251 := n0_; have HB := n1_; clear n0_ n1_; clear hb ho11) | ((with_reducible refine gate_builtin (b := .append) (xs := #[.tmp 33, .tmp 34]) rfl ?_); (try (refine gate_guard (by rfl) ?_; dsimp only)); at_builtin; refine Kd.R_append_rows (Kd.int .u8) (w0 := w) w.heap.size rfl (.tmp 33) (.tmp 34) 22 5 (.int .u8 0) 1 rfl Try.underlying22 info5 rfl (by decide) (by omega) v250 y249 l1 _ _ _ (fun _ => True) (fun _ => False) rfl rfl ?aO ?aR (fun _ _ h => h) (fun _ h => h.elim) ?aF ?aB ?aS ?aL ?_; (case aR => repeat (first | exact (Kd.C_below HR1.out HB.out) | (with_reducible refine Kd.C_alloc ?_ _) | (with_reducible refine Kd.C_drewN ?_ _) | (with_reducible refine Kd.C_drew ?_))); (case aB => exact (by repeat (first | (with_reducible first | exact HB.out | apply below_alloc | apply pw_below_drewN | apply below_drew1) | exact HB.out))); (case aF => exact (fun _ _ => trivial)); (case aO => exact (by (with_reducible repeat (first | apply Kd.R_alloc | apply Kd.R_drewN | apply Kd.R_drew)); exact HO251.out)); (case aS => exact (below_size (by repeat (first | (with_reducible first | exact HB.out | apply below_alloc | apply pw_below_drewN | apply below_drew1) | exact HB.out)))); (case aL => have := LMc9.out; omega); intro v253 w12 ho hb hg hat; rw [← Ny252.out] at ho; have n0_ := Aside0.mk (hb); have n1_ := Aside0.mk (ho); clear HB; clear HO251; have HB := n0_; have HO254 := n1_; clear n0_ n1_; clear ho hb hg hat))
                go_loopg [6] kj5 (fun kq v6 w' => ∃ (x6_3 : List Int), Aside0 (palimpsestref02_Box.l0 kq a0 x6_3 = some (r1, r2)) ∧ Aside0 (kq ≤ kj5) ∧ Aside0 (Kd.R (Kd.int .u8) 5 w' w.heap.size (fun _ => True) v6 x6_3) ∧ Aside0 (Below w.heap.size w w'))
                case atStart => exact ⟨(y252), H', ⟨Nat.le_refl _⟩, ⟨by (with_reducible repeat (first | apply Kd.R_alloc | apply Kd.R_drewN | apply Kd.R_drew)); exact HO254.out⟩, ⟨by repeat (first | (with_reducible first | exact HB.out | apply below_alloc | apply pw_below_drewN | apply below_drew1) | exact HB.out)⟩⟩
                case round =>
                  clear H'
                  try clear c1
                  try clear c2
                  try clear p2
                  try clear c4
                  try clear c4b0
                  try clear c5
                  try clear p6
                  try clear c7
                  try clear c7b0
                  try clear c8
                  try clear c9
                  try clear p2
                  try clear p6
                  obtain ⟨x6_3, HA, HK3, HO_6, HB⟩ := hrel
                  cases gk with
                  | zero => exact absurd HA.out (by simp [palimpsestref02_Box.l0])
                  | succ k3 =>
                    have H := HA.out
                    clear HA
                    simp only [palimpsestref02_Box.l0] at H
                    by_cases c13 : (x6_3.length : Int) < (wrap64 (a0 - 4))
                    · rw [if_pos c13] at H
                      have c13b0 : decide ((x6_3.length : Int) < (wrap64 (a0 - 4))) = true := decide_eq_true c13
                      clear c13
                      by_cases c14 : x6_3.length < 140737488355328
                      · rw [if_pos c14] at H
                        have LMc14 := Aside0.mk c14
                        clear c14
                        obtain ⟨y255, hy255⟩ : ∃ y_ : List Int, y_ = (x6_3 ++ [0]) := ⟨_, rfl⟩
                        replace H : (palimpsestref02_Box.l0 k3 a0 y255) = some (r1, r2) := by first | (rw [hy255]; with_reducible exact H) | (have H2_ := (Option.bind_some _ _).symm.trans H; rw [hy255]; with_reducible exact H2_) | (have H2_ := (Option.bind_some _ _).symm.trans H; with_reducible exact H2_) | with_reducible exact H | (rw [hy255]; exact H) | exact H
                        have Ny255 := Aside0.mk hy255
                        clear hy255
                        have H' := Aside0.mk H
                        clear H
                        obtain ⟨Ao15, co15, eo15⟩ := Kd.R_slice HO_6.out
                        subst eo15
                        go_wp2_with (first | ((with_reducible refine gate_builtin (b := .append) (xs := #[.tmp 41, .tmp 42]) rfl ?_); (try (refine gate_guard (by rfl) ?_; dsimp only)); at_builtin; refine Kd.R_append (Kd.int .u8) (w0 := w) w.heap.size rfl (.tmp 41) (.tmp 42) 22 5 (.int .u8 0) 1 rfl Try.underlying22 info5 rfl (by decide) (by omega) (.slice Ao15 x6_3.length co15) x6_3 0 [.int .u8 0] (fun _ => True) (fun _ => False) rfl rfl ?aP (fun _ hk => hk.elim) ?aF ?aO ?aB ?aS ?aL ?_; (case aP => exact rfl); (case aB => exact (by repeat (first | (with_reducible first | exact HB.out | apply below_alloc | apply pw_below_drewN | apply below_drew1) | exact HB.out))); (case aF => exact (fun _ _ => trivial)); (case aO => exact (by (with_reducible repeat (first | apply Kd.R_alloc | apply Kd.R_drewN | apply Kd.R_drew)); exact HO_6.out)); (case aS => exact (below_size (by repeat (first | (with_reducible first | exact HB.out | apply below_alloc | apply pw_below_drewN | apply below_drew1) | exact HB.out)))); (case aL => have := LMc14.out; omega); intro v256 w16 ho hb hg hat; rw [← Ny255.out] at ho; have n0_ := Aside0.mk (hb); have n1_ := Aside0.mk (ho); clear HB; clear HO_6; have HB := n0_; have HO257 := n1_; clear n0_ n1_; clear ho hb hg hat))
                        go_roundg k3
                        case measure => have := HJ2.out; have := HJ5.out; have := HK3.out; omega
                        case rel => exact ⟨(y255), H', ⟨by have := HJ2.out; have := HJ5.out; have := HK3.out; omega⟩, ⟨by (with_reducible repeat (first | apply Kd.R_alloc | apply Kd.R_drewN | apply Kd.R_drew)); exact HO257.out⟩, ⟨by repeat (first | (with_reducible first | exact HB.out | apply below_alloc | apply pw_below_drewN | apply below_drew1) | exact HB.out)⟩⟩
                      · rw [if_neg c14] at H
                        exact absurd H (by simp)
                    · rw [if_neg c13] at H
                      have c13b0 : decide ((x6_3.length : Int) < (wrap64 (a0 - 4))) = false := decide_eq_false c13
                      clear c13
                      replace H := Option.bind_eq_some_iff.mp H
                      obtain ⟨t258, A170, H⟩ := H
                      replace H : ((some (([(t258 / 16777216) % 256, (t258 / 65536) % 256, (t258 / 256) % 256, (t258) % 256] : List Int) : List Int)).bind fun y259 => (if y259.length + x6_3.length < 140737488355328 then (some ((y259 ++ x6_3), 0)) else (none))) = some (r1, r2) := H
                      have A17 := Aside0.mk A170
                      clear A170
                      obtain ⟨y259, hy259⟩ : ∃ y_ : List Int, y_ = (([(t258 / 16777216) % 256, (t258 / 65536) % 256, (t258 / 256) % 256, (t258) % 256] : List Int)) := ⟨_, rfl⟩
                      replace H : (if y259.length + x6_3.length < 140737488355328 then (some ((y259 ++ x6_3), 0)) else (none)) = some (r1, r2) := by first | (rw [hy259]; with_reducible exact H) | (have H2_ := (Option.bind_some _ _).symm.trans H; rw [hy259]; with_reducible exact H2_) | (have H2_ := (Option.bind_some _ _).symm.trans H; with_reducible exact H2_) | with_reducible exact H | (rw [hy259]; exact H) | exact H
                      have Ny259 := Aside0.mk hy259
                      clear hy259
                      by_cases c18 : y259.length + x6_3.length < 140737488355328
                      · rw [if_pos c18] at H
                        have LMc18 := Aside0.mk c18
                        clear c18
                        obtain ⟨y262, hy262⟩ : ∃ y_ : List Int, y_ = (y259 ++ x6_3) := ⟨_, rfl⟩
                        replace H : (some (y262, 0)) = some (r1, r2) := by first | (rw [hy262]; with_reducible exact H) | (have H2_ := (Option.bind_some _ _).symm.trans H; rw [hy262]; with_reducible exact H2_) | (have H2_ := (Option.bind_some _ _).symm.trans H; with_reducible exact H2_) | with_reducible exact H | (rw [hy262]; exact H) | exact H
                        have Ny262 := Aside0.mk hy262
                        clear hy262
                        simp only [Option.some.injEq, Prod.mk.injEq] at H
                        obtain ⟨rfl, rfl⟩ := H
                        obtain ⟨Ao19, co19, eo19⟩ := Kd.R_slice HO_6.out
                        subst eo19
                        go_wp2_with (first | ((with_reducible refine gate_callee (f := 46) rfl ?_); refine goesL_ (some 45) rfl rfl Try.func46 (by kernel_rfl) rfl #[.slice Ao19 x6_3.length co19] rfl (by (try simp only [List.map_toArray, List.map_cons, List.map_nil]); first | done | rfl | (simp only [List.length_drop, List.length_take]; rfl)) ?_; (with_reducible refine (palimpsestref02_Check.calls k3 _ _ x6_3 t258 _ ?side1 ?side2 A17.out).mono ?_); (case side1 => repeat (first | exact (Kd.R_reads' HO_6.out).2.2 | (with_reducible refine Kd.C_alloc ?_ _) | (with_reducible refine Kd.C_drewN ?_ _) | (with_reducible refine Kd.C_drew ?_))); (case side2 => exact (Kd.R_reads' HO_6.out).2.1); rintro e w' ⟨rfl, ⟨nd, rfl⟩⟩; refine ⟨_, rfl, ?_⟩) | ((with_reducible refine gate_dst (N := 57) rfl ?_); (try (refine gate_guard (by rfl) ?_; dsimp only)); refine Kd.R_lit (Kd.int .u8) _ 5 ?hg (N := 57) ?hd (xs := ([(t258 / 16777216) % 256, (t258 / 65536) % 256, (t258 / 256) % 256, (t258) % 256] : List Int)) (inner := [.int .u8 ((t258 / 16777216) % 256), .int .u8 ((t258 / 65536) % 256), .int .u8 ((t258 / 256) % 256), .int .u8 ((t258) % 256)]) (ok := fun _ => True) (okp := fun _ => True) ?hr ?hp (fun _ hk => hk) trivial (Below.refl _ _) (Nat.le_refl _) (by simp) ?_; (case hd => rfl); (case hg => rfl); (case hr => first | (go_simp; done) | (go_simp; rfl)); (case hp => exact (Reps.one (show Kd.M (Kd.int .u8) _ _ _ ((t258 / 16777216) % 256) [.int .u8 ((t258 / 16777216) % 256)] from rfl) (Reps.one (show Kd.M (Kd.int .u8) _ _ _ ((t258 / 65536) % 256) [.int .u8 ((t258 / 65536) % 256)] from rfl) (Reps.one (show Kd.M (Kd.int .u8) _ _ _ ((t258 / 256) % 256) [.int .u8 ((t258 / 256) % 256)] from rfl) (Reps.one (show Kd.M (Kd.int .u8) _ _ _ ((t258) % 256) [.int .u8 ((t258) % 256)] from rfl) (Reps.none _ _)))))); intro v260 w20 ho21 hb hg_ hnew_; clear hg_ hnew_; (first | rw [← Ny259.out] at ho21 | (simp only [Int.reduceToNat] at ho21; rw [← Ny259.out] at ho21)); have n0_ := Aside0.mk (Kd.R_elder' (by (with_reducible repeat (first | apply Kd.R_alloc | apply Kd.R_drewN | apply Kd.R_drew)); exact HO_6.out) (Kd.R_base ho21) hb); have n1_ := Aside0.mk (Kd.R_lower (Kd.R_new' ho21 (Kd.R_lt (by (with_reducible repeat (first | apply Kd.R_alloc | apply Kd.R_drewN | apply Kd.R_drew)); exact HO_6.out))) (below_size (by repeat (first | (with_reducible first | exact HB.out | apply below_alloc | apply pw_below_drewN | apply below_drew1) | exact HB.out)))); have n2_ := Aside0.mk (below_step (by repeat (first | (with_reducible first | exact HB.out | apply below_alloc | apply pw_below_drewN | apply below_drew1) | exact HB.out)) hb); clear HO_6; clear HB; have HO_6 := n0_; have HO261 := n1_; have HB := n2_; clear n0_ n1_ n2_; clear hb ho21) | ((with_reducible refine gate_builtin (b := .append) (xs := #[.tmp 57, .tmp 58]) rfl ?_); (try (refine gate_guard (by rfl) ?_; dsimp only)); at_builtin; refine Kd.R_append_rows (Kd.int .u8) (w0 := w) w.heap.size rfl (.tmp 57) (.tmp 58) 22 5 (.int .u8 0) 1 rfl Try.underlying22 info5 rfl (by decide) (by omega) v260 y259 x6_3 _ _ _ (fun k_ => some k_ ≠ (.slice Ao19 x6_3.length co19 : Value).ownBlock) (fun _ => False) rfl rfl ?aO ?aR (fun _ _ h => h) (fun _ h => h.elim) ?aF ?aB ?aS ?aL ?_; (case aR => repeat (first | exact (Kd.R_reads' HO_6.out).2.2 | (with_reducible refine Kd.C_alloc ?_ _) | (with_reducible refine Kd.C_drewN ?_ _) | (with_reducible refine Kd.C_drew ?_))); (case aB => exact (by repeat (first | (with_reducible first | exact HB.out | apply below_alloc | apply pw_below_drewN | apply below_drew1) | exact HB.out))); (case aF => exact (fun k_ hk => Kd.fresh' (Kd.R_lt (by (with_reducible repeat (first | apply Kd.R_alloc | apply Kd.R_drewN | apply Kd.R_drew)); exact HO_6.out)) k_ hk)); (case aO => exact (by (with_reducible repeat (first | apply Kd.R_alloc | apply Kd.R_drewN | apply Kd.R_drew)); exact Kd.R_mono HO261.out (fun _ hk => hk.2))); (case aS => exact (below_size (by repeat (first | (with_reducible first | exact HB.out | apply below_alloc | apply pw_below_drewN | apply below_drew1) | exact HB.out)))); (case aL => have := LMc18.out; omega); intro v263 w22 ho hb hg hat; rw [← Ny262.out] at ho; have n0_ := Aside0.mk (Kd.R_after (ok := (fun _ => True)) (by (with_reducible repeat (first | apply Kd.R_alloc | apply Kd.R_drewN | apply Kd.R_drew)); exact HO_6.out) hg hat); have n1_ := Aside0.mk (hb); have n2_ := Aside0.mk (ho); clear HO_6; clear HB; clear HO261; have HO_6 := n0_; have HB := n1_; have HO264 := n2_; clear n0_ n1_ n2_; clear ho hb hg hat))
                        go_ret2
                        exact ⟨_, by first | rfl | (simp [errW_none, errW_some] <;> rfl) | (simp [*, errW_none, errW_some] <;> rfl), by (with_reducible repeat (first | apply Kd.R_alloc | apply Kd.R_drewN | apply Kd.R_drew)); exact Kd.R_mono HO264.out (fun _ hk => trivial), by repeat (first | (with_reducible first | exact HB.out | apply below_alloc | apply pw_below_drewN | apply below_drew1) | exact HB.out)⟩
                      · rw [if_neg c18] at H
                        exact absurd H (by simp)
              · rw [if_neg c9] at H
                exact absurd H (by simp)

end Go.Proofs.Ytbphmpncajfaiaa.Py
-- PRINTED by print.py (a twelfth state) out of the translation. Not trusted: Lean checks it.
namespace Go.Proofs.Ytbphmpncajfaiaa.Py
open Go.RowKit Go.Proofs.YtbphmpncajfaiaaW.PrintWords Go.Proofs.YtbphmpncajfaiaaW.PrintLast Go.Proofs.YtbphmpncajfaiaaW.PrintMore
attribute [local go_sem] max2_int min2_int max_two min_two max_three min_three max_four min_four   -- for this text's walks alone
set_option linter.unusedVariables false
set_option linter.unusedSimpArgs false

/-! ### palimpsestnum_Num: function 28 -/
def palimpsestnum_Num.f (a0 : Option Int) : Option (Int) := if a0.isNone = true then (some 0) else (if (a0.getD 0) = 0 then (some (-1)) else (some (a0.getD 0)))
set_option maxHeartbeats 8000000 in
set_option maxRecDepth 100000 in
theorem palimpsestnum_Num.calls (a0 : Option Int) (r : Int) (w : World) (h : palimpsestnum_Num.f a0 = some r) :
    Calls Try.prog 28 #[errW a0] w fun e w' => e = .returned (.int .i64 r) ∧ Drawn0 w w' := by
  have hu40 := Try.underlying40
  have hu49 := Try.underlying49
  have hta : ∀ (v : Value) (W : World), (Instr.typeAssert (.iface 49 v) 40 49 true).run Try.prog W = .ok (.tuple #[v, .bool true]) W := fun v W => by rfl
  have H : (if a0.isNone = true then (some 0) else (if (a0.getD 0) = 0 then (some (-1)) else (some (a0.getD 0)))) = some r := h
  clear h
  rcases a0 with _ | q265
  · have H1 : (some 0) = some r := by rw [if_pos (show (none : Option Int).isNone = true by rfl)] at H; exact H
    clear H
    have H := H1
    clear H1
    simp only [errW_none, errW_some]
    obtain rfl := Option.some.inj H
    go_enter Try.func28, Try.ntmps28
    go_wp2
    go_ret
    exact ⟨by first | rfl | (simp; done) | (simp [*]; done), by repeat (first | exact Drawn0.refl _ | apply Drawn0.step)⟩
  · have H1 : (if q265 = 0 then (some (-1)) else (some q265)) = some r := by rw [if_neg (show ¬ (some q265).isNone = true by simp)] at H; exact H
    clear H
    have H := H1
    clear H1
    simp only [errW_none, errW_some]
    by_cases c2 : q265 = 0
    · rw [if_pos c2] at H
      have c2b0 : (q265 == 0) = true := beq_iff_eq.mpr c2
      have c2b1 : (q265 != 0) = false := bne_eq_false_iff_eq.mpr c2
      clear c2
      obtain rfl := Option.some.inj H
      go_enter Try.func28, Try.ntmps28
      go_wp2
      go_ret
      exact ⟨by first | rfl | (simp; done) | (simp [*]; done), by repeat (first | exact Drawn0.refl _ | apply Drawn0.step)⟩
    · rw [if_neg c2] at H
      have c2b0 : (q265 == 0) = false := beq_eq_false_iff_ne.mpr c2
      have c2b1 : (q265 != 0) = true := bne_iff_ne.mpr c2
      obtain rfl := Option.some.inj H
      go_enter Try.func28, Try.ntmps28
      go_wp2
      go_ret
      exact ⟨by first | rfl | (simp; done) | (simp [*]; done), by repeat (first | exact Drawn0.refl _ | apply Drawn0.step)⟩

end Go.Proofs.Ytbphmpncajfaiaa.Py
-- begun as a text of the kit's print.py, mended by hand
namespace Go.Proofs.Ytbphmpncajfaiaa.Py
open Go.RowKit Go.Proofs.YtbphmpncajfaiaaW.PrintWords Go.Proofs.YtbphmpncajfaiaaW.PrintLast Go.Proofs.YtbphmpncajfaiaaW.PrintMore
attribute [local go_sem] max2_int min2_int max_two min_two max_three min_three max_four min_four   -- for this text's walks alone
set_option linter.unusedVariables false
set_option linter.unusedSimpArgs false

/-! ### palimpsestref02_Unbox: function 30 -/
def palimpsestref02_Unbox.f (k : Nat) (l0 : List Int) : Option (List Int × Bool) := if (l0.length : Int) < 6 then (some (([] : List Int), false)) else (if 4 < (l0.length : Int) then (if 5 < (l0.length : Int) then (if (wrap64 ((wrap64 (256 * (wrap64 (rd l0 4)))) + (wrap64 (rd l0 5)))) > (wrap64 ((l0.length : Int) - 6)) then (some (([] : List Int), false)) else (if 6 ≤ (wrap64 (6 + (wrap64 ((wrap64 (256 * (wrap64 (rd l0 4)))) + (wrap64 (rd l0 5)))))) then (if (wrap64 (6 + (wrap64 ((wrap64 (256 * (wrap64 (rd l0 4)))) + (wrap64 (rd l0 5)))))) ≤ (l0.length : Int) then ((palimpsestref02_Box.f k (l0.length : Int) ((l0.take ((wrap64 (6 + (wrap64 ((wrap64 (256 * (wrap64 (rd l0 4)))) + (wrap64 (rd l0 5)))))) : Int).toNat).drop 6)).bind fun bt284 => (if bt284.2 = 0 then (if (strOfNums bt284.1).toList = (strOfNums l0).toList then ((some (([] : List Int) : List Int)).bind fun y288 => (if y288.length + ((l0.take ((wrap64 (6 + (wrap64 ((wrap64 (256 * (wrap64 (rd l0 4)))) + (wrap64 (rd l0 5)))))) : Int).toNat).drop 6).length < 140737488355328 then (some ((y288 ++ ((l0.take ((wrap64 (6 + (wrap64 ((wrap64 (256 * (wrap64 (rd l0 4)))) + (wrap64 (rd l0 5)))))) : Int).toNat).drop 6)), true)) else (none))) else (some (([] : List Int), false))) else (some (([] : List Int), false)))) else (none)) else (none))) else (none)) else (none))
theorem palimpsestref02_Unbox.mono : ∀ a0 k, LeO (palimpsestref02_Unbox.f k a0) (palimpsestref02_Unbox.f (k + 1) a0) := by
  intro a0 k
  unfold palimpsestref02_Unbox.f
  repeat' first
      | (with_reducible exact palimpsestref02_Box.mono _ _ _)
      | (with_reducible exact LeO.refl _)
      | (with_reducible exact LeO.none _)
      | (with_reducible refine LeO.ite ?_ ?_)
      | (with_reducible refine LeO.bind ?_ (fun _ => ?_))
      | exact palimpsestref02_Box.mono _ _ _
      | exact LeO.none _
      | refine LeO.ite ?_ ?_
      | refine LeO.bind ?_ (fun _ => ?_)
set_option maxHeartbeats 8000000 in
set_option maxRecDepth 100000 in
theorem palimpsestref02_Unbox.calls (k : Nat) (A0 : Option Addr) (c0 : Nat) (l0 : List Int) (r1 : List Int) (r2 : Bool) (w : World) (hr0 : Kd.C (Kd.int .u8) w A0 l0.length l0) (hc0 : l0.length ≤ c0) (h : palimpsestref02_Unbox.f k l0 = some (r1, r2)) :
    Calls Try.prog 30 #[.slice A0 l0.length c0] w fun e w' => ∃ v0_ : Value, e = .returned (.tuple #[v0_, .bool r2]) ∧ Kd.R (Kd.int .u8) 5 w' w.heap.size (fun _ => True) v0_ r1 ∧ Below w.heap.size w w' := by
  have HR0 := Aside0.mk hr0
  have HC0 := Aside0.mk hc0
  clear hr0 hc0
  have HB := Aside0.mk (Below.refl w.heap.size w)
  have H : (if (l0.length : Int) < 6 then (some (([] : List Int), false)) else (if 4 < (l0.length : Int) then (if 5 < (l0.length : Int) then (if (wrap64 ((wrap64 (256 * (wrap64 (rd l0 4)))) + (wrap64 (rd l0 5)))) > (wrap64 ((l0.length : Int) - 6)) then (some (([] : List Int), false)) else (if 6 ≤ (wrap64 (6 + (wrap64 ((wrap64 (256 * (wrap64 (rd l0 4)))) + (wrap64 (rd l0 5)))))) then (if (wrap64 (6 + (wrap64 ((wrap64 (256 * (wrap64 (rd l0 4)))) + (wrap64 (rd l0 5)))))) ≤ (l0.length : Int) then ((palimpsestref02_Box.f k (l0.length : Int) ((l0.take ((wrap64 (6 + (wrap64 ((wrap64 (256 * (wrap64 (rd l0 4)))) + (wrap64 (rd l0 5)))))) : Int).toNat).drop 6)).bind fun bt284 => (if bt284.2 = 0 then (if (strOfNums bt284.1).toList = (strOfNums l0).toList then ((some (([] : List Int) : List Int)).bind fun y288 => (if y288.length + ((l0.take ((wrap64 (6 + (wrap64 ((wrap64 (256 * (wrap64 (rd l0 4)))) + (wrap64 (rd l0 5)))))) : Int).toNat).drop 6).length < 140737488355328 then (some ((y288 ++ ((l0.take ((wrap64 (6 + (wrap64 ((wrap64 (256 * (wrap64 (rd l0 4)))) + (wrap64 (rd l0 5)))))) : Int).toNat).drop 6)), true)) else (none))) else (some (([] : List Int), false))) else (some (([] : List Int), false)))) else (none)) else (none))) else (none)) else (none))) = some (r1, r2) := h
  clear h
  by_cases c2 : (l0.length : Int) < 6
  · rw [if_pos c2] at H
    have c2b0 : decide ((l0.length : Int) < 6) = true := decide_eq_true c2
    have c2b1 : decide (l0.length < 6) = true := decide_eq_true (by omega)
    clear c2
    simp only [Option.some.injEq, Prod.mk.injEq] at H
    obtain ⟨rfl, rfl⟩ := H
    go_enter Try.func30, Try.ntmps30
    go_wp2
    repeat (go_quiet (fail); try go_wp2)
    go_ret2
    exact ⟨_, by first | rfl | (simp [errW_none, errW_some] <;> rfl) | (simp [*, errW_none, errW_some] <;> rfl), by first | exact Kd.R_nil _ _ _ _ _ | exact Kd.N_nil _ _ _ _ _ | exact Kd.V_nil _ _ _ _ _ | exact Kd.Q_nil _ _ _ _ _ | exact Kd.S_nil _ _ _ _ _, by repeat (first | (with_reducible first | exact HB.out | apply below_alloc | apply pw_below_drewN | apply below_drew1) | exact HB.out)⟩
  · rw [if_neg c2] at H
    have c2b0 : decide ((l0.length : Int) < 6) = false := decide_eq_false c2
    have c2b1 : decide (l0.length < 6) = false := decide_eq_false (by omega)
    clear c2
    by_cases c3 : 4 < (l0.length : Int)
    · rw [if_pos c3] at H
      have c3b0 : decide (4 < (l0.length : Int)) = true := decide_eq_true c3
      have c3b1 : decide (4 < l0.length) = true := decide_eq_true (by omega)
      clear c3
      by_cases c4 : 5 < (l0.length : Int)
      · rw [if_pos c4] at H
        have c4b0 : decide (5 < (l0.length : Int)) = true := decide_eq_true c4
        have c4b1 : decide (5 < l0.length) = true := decide_eq_true (by omega)
        clear c4
        by_cases c5 : (wrap64 ((wrap64 (256 * (wrap64 (rd l0 4)))) + (wrap64 (rd l0 5)))) > (wrap64 ((l0.length : Int) - 6))
        · rw [if_pos c5] at H
          have c5b0 : decide ((wrap64 ((l0.length : Int) - 6)) < (wrap64 ((wrap64 (256 * (wrap64 (rd l0 4)))) + (wrap64 (rd l0 5))))) = true := decide_eq_true c5
          clear c5
          simp only [Option.some.injEq, Prod.mk.injEq] at H
          obtain ⟨rfl, rfl⟩ := H
          have p281 : 0 ≤ (4 : Int) := (by omega)
          have q281 : 4 < (l0.length : Int) := of_decide_eq_true (by first | (with_reducible assumption) | assumption)
          obtain ⟨ad281, e281, hx281_0⟩ := Kd.at_int HR0.out 4 p281 q281
          cases e281
          (try simp only [show (4 : Int).toNat = 4 from rfl, Nat.reduceMul, Nat.reduceEqDiff, Go.Addr.add, ↓reduceIte] at hx281_0)
          have qi281 : (4 < l0.length) = True := eq_true (by omega)
          (try rw [show ((4 : Int)).toNat = 4 from rfl] at hx281_0)
          replace p281 := eq_true p281
          replace q281 := eq_true q281
          have p282 : 0 ≤ (5 : Int) := (by omega)
          have q282 : 5 < (l0.length : Int) := of_decide_eq_true (by first | (with_reducible assumption) | assumption)
          obtain ⟨ad282, e282, hx282_0⟩ := Kd.at_int HR0.out 5 p282 q282
          obtain rfl : ad281 = ad282 := (by injection e282)
          (try simp only [show (5 : Int).toNat = 5 from rfl, Nat.reduceMul, Nat.reduceEqDiff, Go.Addr.add, ↓reduceIte] at hx282_0)
          have qi282 : (5 < l0.length) = True := eq_true (by omega)
          (try rw [show ((5 : Int)).toNat = 5 from rfl] at hx282_0)
          replace p282 := eq_true p282
          replace q282 := eq_true q282
          go_enter Try.func30, Try.ntmps30
          go_wp2
          repeat (go_quiet (fail); try go_wp2)
          go_ret2
          exact ⟨_, by first | rfl | (simp [errW_none, errW_some] <;> rfl) | (simp [*, errW_none, errW_some] <;> rfl), by first | exact Kd.R_nil _ _ _ _ _ | exact Kd.N_nil _ _ _ _ _ | exact Kd.V_nil _ _ _ _ _ | exact Kd.Q_nil _ _ _ _ _ | exact Kd.S_nil _ _ _ _ _, by repeat (first | (with_reducible first | exact HB.out | apply below_alloc | apply pw_below_drewN | apply below_drew1) | exact HB.out)⟩
        · rw [if_neg c5] at H
          have c5b0 : decide ((wrap64 ((l0.length : Int) - 6)) < (wrap64 ((wrap64 (256 * (wrap64 (rd l0 4)))) + (wrap64 (rd l0 5))))) = false := decide_eq_false c5
          clear c5
          by_cases c6 : 6 ≤ (wrap64 (6 + (wrap64 ((wrap64 (256 * (wrap64 (rd l0 4)))) + (wrap64 (rd l0 5))))))
          · rw [if_pos c6] at H
            have c6b0 := eq_true c6
            have c6b1 : decide (6 ≤ (wrap64 (6 + (wrap64 ((wrap64 (256 * (wrap64 (rd l0 4)))) + (wrap64 (rd l0 5))))))) = true := decide_eq_true c6
            by_cases c7 : (wrap64 (6 + (wrap64 ((wrap64 (256 * (wrap64 (rd l0 4)))) + (wrap64 (rd l0 5)))))) ≤ (l0.length : Int)
            · rw [if_pos c7] at H
              have c7b0 := eq_true c7
              have c7b1 : decide ((wrap64 (6 + (wrap64 ((wrap64 (256 * (wrap64 (rd l0 4)))) + (wrap64 (rd l0 5)))))) ≤ (l0.length : Int)) = true := decide_eq_true c7
              replace H := Option.bind_eq_some_iff.mp H
              obtain ⟨⟨t284, t285⟩, A80, H⟩ := H
              replace H : (if t285 = 0 then (if (strOfNums t284).toList = (strOfNums l0).toList then ((some (([] : List Int) : List Int)).bind fun y288 => (if y288.length + ((l0.take ((wrap64 (6 + (wrap64 ((wrap64 (256 * (wrap64 (rd l0 4)))) + (wrap64 (rd l0 5)))))) : Int).toNat).drop 6).length < 140737488355328 then (some ((y288 ++ ((l0.take ((wrap64 (6 + (wrap64 ((wrap64 (256 * (wrap64 (rd l0 4)))) + (wrap64 (rd l0 5)))))) : Int).toNat).drop 6)), true)) else (none))) else (some (([] : List Int), false))) else (some (([] : List Int), false))) = some (r1, r2) := H
              have A8 := Aside0.mk A80
              clear A80
              by_cases c9 : t285 = 0
              · rw [if_pos c9] at H
                have c9b0 : (t285 == 0) = true := beq_iff_eq.mpr c9
                have c9b1 : (t285 != 0) = false := bne_eq_false_iff_eq.mpr c9
                clear c9
                by_cases c10 : (strOfNums t284).toList = (strOfNums l0).toList
                · rw [if_pos c10] at H
                  have c10b0 : ((strOfNums t284).toList == (strOfNums l0).toList) = true := beq_iff_eq.mpr c10
                  have c10b1 : ((strOfNums t284).toList != (strOfNums l0).toList) = false := bne_eq_false_iff_eq.mpr c10
                  clear c10
                  obtain ⟨y288, hy288⟩ : ∃ y_ : List Int, y_ = (([] : List Int)) := ⟨_, rfl⟩
                  replace H : (if y288.length + ((l0.take ((wrap64 (6 + (wrap64 ((wrap64 (256 * (wrap64 (rd l0 4)))) + (wrap64 (rd l0 5)))))) : Int).toNat).drop 6).length < 140737488355328 then (some ((y288 ++ ((l0.take ((wrap64 (6 + (wrap64 ((wrap64 (256 * (wrap64 (rd l0 4)))) + (wrap64 (rd l0 5)))))) : Int).toNat).drop 6)), true)) else (none)) = some (r1, r2) := by first | (rw [hy288]; with_reducible exact H) | (have H2_ := (Option.bind_some _ _).symm.trans H; rw [hy288]; with_reducible exact H2_) | (have H2_ := (Option.bind_some _ _).symm.trans H; with_reducible exact H2_) | with_reducible exact H | (rw [hy288]; exact H) | exact H
                  have Ny288 := Aside0.mk hy288
                  clear hy288
                  have c11b0 := eq_true (of_decide_eq_true (by first | (with_reducible assumption) | assumption) : 6 ≤ (wrap64 (6 + (wrap64 ((wrap64 (256 * (wrap64 (rd l0 4)))) + (wrap64 (rd l0 5)))))))
                  have c12b0 := eq_true (of_decide_eq_true (by first | (with_reducible assumption) | assumption) : (wrap64 (6 + (wrap64 ((wrap64 (256 * (wrap64 (rd l0 4)))) + (wrap64 (rd l0 5)))))) ≤ (l0.length : Int))
                  by_cases c13 : y288.length + ((l0.take ((wrap64 (6 + (wrap64 ((wrap64 (256 * (wrap64 (rd l0 4)))) + (wrap64 (rd l0 5)))))) : Int).toNat).drop 6).length < 140737488355328
                  · rw [if_pos c13] at H
                    have LMc13 := Aside0.mk c13
                    clear c13
                    obtain ⟨y292, hy292⟩ : ∃ y_ : List Int, y_ = (y288 ++ ((l0.take ((wrap64 (6 + (wrap64 ((wrap64 (256 * (wrap64 (rd l0 4)))) + (wrap64 (rd l0 5)))))) : Int).toNat).drop 6)) := ⟨_, rfl⟩
                    replace H : (some (y292, true)) = some (r1, r2) := by first | (rw [hy292]; with_reducible exact H) | (have H2_ := (Option.bind_some _ _).symm.trans H; rw [hy292]; with_reducible exact H2_) | (have H2_ := (Option.bind_some _ _).symm.trans H; with_reducible exact H2_) | with_reducible exact H | (rw [hy292]; exact H) | exact H
                    have Ny292 := Aside0.mk hy292
                    clear hy292
                    simp only [Option.some.injEq, Prod.mk.injEq] at H
                    obtain ⟨rfl, rfl⟩ := H
                    have p281 : 0 ≤ (4 : Int) := (by omega)
                    have q281 : 4 < (l0.length : Int) := of_decide_eq_true (by first | (with_reducible assumption) | assumption)
                    obtain ⟨ad281, e281, hx281_0⟩ := Kd.at_int HR0.out 4 p281 q281
                    cases e281
                    (try simp only [show (4 : Int).toNat = 4 from rfl, Nat.reduceMul, Nat.reduceEqDiff, Go.Addr.add, ↓reduceIte] at hx281_0)
                    have qi281 : (4 < l0.length) = True := eq_true (by omega)
                    (try rw [show ((4 : Int)).toNat = 4 from rfl] at hx281_0)
                    replace p281 := eq_true p281
                    replace q281 := eq_true q281
                    have p282 : 0 ≤ (5 : Int) := (by omega)
                    have q282 : 5 < (l0.length : Int) := of_decide_eq_true (by first | (with_reducible assumption) | assumption)
                    obtain ⟨ad282, e282, hx282_0⟩ := Kd.at_int HR0.out 5 p282 q282
                    obtain rfl : ad281 = ad282 := (by injection e282)
                    (try simp only [show (5 : Int).toNat = 5 from rfl, Nat.reduceMul, Nat.reduceEqDiff, Go.Addr.add, ↓reduceIte] at hx282_0)
                    have qi282 : (5 < l0.length) = True := eq_true (by omega)
                    (try rw [show ((5 : Int)).toNat = 5 from rfl] at hx282_0)
                    replace p282 := eq_true p282
                    replace q282 := eq_true q282
                    obtain ⟨i014, hi014, _, hsz14, _⟩ := info_parts info5
                    obtain ⟨A14, hcut14, hA14, hC14⟩ := print_mid_of (P := Try.prog) (Value.int .u8) 0 22 5 .i64 .i64 Try.underlying22 hi014 hsz14 (some ad281) c0 l0 6 (wrap64 (6 + (wrap64 ((wrap64 (256 * (wrap64 (rd l0 4)))) + (wrap64 (rd l0 5)))))) (by omega) (by first | omega | exact of_decide_eq_true (by first | (with_reducible assumption) | assumption)) (of_decide_eq_true (by first | (with_reducible assumption) | assumption)) HC0.out
                    have HR283 := Aside0.mk (Kd.C_of_reads (h1 := fun _ => rfl) (hA14 _ (Kd.reads_of_C HR0.out)))
                    have HC283 := Aside0.mk hC14
                    clear hA14 hC14 hi014 hsz14
                    simp only [show (6 : Int).toNat = 6 from rfl] at hcut14 HR283 HC283
                    generalize (l0.take ((wrap64 (6 + (wrap64 ((wrap64 (256 * (wrap64 (rd l0 4)))) + (wrap64 (rd l0 5)))))) : Int).toNat).drop 6 = l6 at hcut14 HR283 HC283 A8 Ny292 LMc13
                    go_enter Try.func30, Try.ntmps30
                    go_wp2
                    go_quiet (fail)
                    go_wp2_with (first | (go_at_call 27; (with_reducible refine (palimpsestref02_Box.calls k (l0.length : Int) _ _ l6 t284 t285 _ ?side1 ?side2 A8.out).mono ?_); (case side1 => exact Kd.C_drewN (by first | exact HR283.out | exact Kd.C_below HR283.out HB.out) _); (case side2 => exact HC283.out); rintro e w15 ⟨v286, rfl, ho0, hb⟩; have HO287 := Aside0.mk (Kd.R_lower ho0 (below_size (pw_below_drewN HB.out _))); have HB15 := Aside0.mk (below_step (pw_below_drewN HB.out _) hb); clear ho0 hb; have hcv16 := own_string (P := Try.prog) Try.underlying22 Try.underlying5 Try.underlying9 (Kd.own_of_R HO287.out); have hcv17 := Kd.C_string (P := Try.prog) (A := (some ad281)) (c := c0) Try.underlying22 Try.underlying5 Try.underlying9 (Kd.C_below HR0.out HB15.out)) | ((with_reducible refine gate_dst (N := 44) rfl ?_); refine Kd.R_lit (w0 := w) (Kd.int .u8) w.heap.size 5 ?hg (N := 44) ?hd (xs := ([] : List Int)) (inner := []) (ok := fun _ => True) (okp := fun _ => True) ?hr ?hp (fun _ hk => hk) trivial HB15.out (below_size HB15.out) (by simp) ?_; (case hd => rfl); (case hg => rfl); (case hr => first | (go_simp; done) | (go_simp; rfl)); (case hp => exact (Reps.none _ _)); intro v289 w18 ho19 hb hg_ hnew_; rw [← Ny288.out] at ho19; have HO290 := Aside0.mk ho19; have HB18 := Aside0.mk hb; have HR18 := Aside0.mk (Kd.C_below HR283.out hb); clear ho19 hb hg_ hnew_) | ((with_reducible refine gate_builtin (b := .append) (xs := #[.tmp 44, .tmp 48]) rfl ?_); at_builtin; refine Kd.R_append_rows (Kd.int .u8) (w0 := w) w.heap.size rfl (.tmp 44) (.tmp 48) 22 5 (.int .u8 0) 1 rfl Try.underlying22 info5 rfl (by decide) (by omega) v289 y288 l6 _ _ _ (fun _ => True) (fun _ => False) rfl rfl ?aO ?aR (fun _ _ h => h) (fun _ h => h.elim) ?aF ?aB ?aS ?aL ?_; (case aR => exact HR18.out); (case aB => exact HB18.out); (case aF => exact (fun _ _ => trivial)); (case aO => exact HO290.out); (case aS => exact below_size HB18.out); (case aL => have := LMc13.out; omega); intro v293 w21 ho hb hg hat; rw [← Ny292.out] at ho; have HB21 := Aside0.mk hb; have HO294 := Aside0.mk ho; clear ho hb hg hat))
                    go_ret2
                    exact ⟨_, rfl, HO294.out, HB21.out⟩
                  · rw [if_neg c13] at H
                    exact absurd H (by simp)
                · rw [if_neg c10] at H
                  have c10b0 : ((strOfNums t284).toList == (strOfNums l0).toList) = false := beq_eq_false_iff_ne.mpr c10
                  have c10b1 : ((strOfNums t284).toList != (strOfNums l0).toList) = true := bne_iff_ne.mpr c10
                  simp only [Option.some.injEq, Prod.mk.injEq] at H
                  obtain ⟨rfl, rfl⟩ := H
                  have p281 : 0 ≤ (4 : Int) := (by omega)
                  have q281 : 4 < (l0.length : Int) := of_decide_eq_true (by first | (with_reducible assumption) | assumption)
                  obtain ⟨ad281, e281, hx281_0⟩ := Kd.at_int HR0.out 4 p281 q281
                  cases e281
                  (try simp only [show (4 : Int).toNat = 4 from rfl, Nat.reduceMul, Nat.reduceEqDiff, Go.Addr.add, ↓reduceIte] at hx281_0)
                  have qi281 : (4 < l0.length) = True := eq_true (by omega)
                  (try rw [show ((4 : Int)).toNat = 4 from rfl] at hx281_0)
                  replace p281 := eq_true p281
                  replace q281 := eq_true q281
                  have p282 : 0 ≤ (5 : Int) := (by omega)
                  have q282 : 5 < (l0.length : Int) := of_decide_eq_true (by first | (with_reducible assumption) | assumption)
                  obtain ⟨ad282, e282, hx282_0⟩ := Kd.at_int HR0.out 5 p282 q282
                  obtain rfl : ad281 = ad282 := (by injection e282)
                  (try simp only [show (5 : Int).toNat = 5 from rfl, Nat.reduceMul, Nat.reduceEqDiff, Go.Addr.add, ↓reduceIte] at hx282_0)
                  have qi282 : (5 < l0.length) = True := eq_true (by omega)
                  (try rw [show ((5 : Int)).toNat = 5 from rfl] at hx282_0)
                  replace p282 := eq_true p282
                  replace q282 := eq_true q282
                  obtain ⟨i022, hi022, _, hsz22, _⟩ := info_parts info5
                  obtain ⟨A22, hcut22, hA22, hC22⟩ := print_mid_of (P := Try.prog) (Value.int .u8) 0 22 5 .i64 .i64 Try.underlying22 hi022 hsz22 (some ad281) c0 l0 6 (wrap64 (6 + (wrap64 ((wrap64 (256 * (wrap64 (rd l0 4)))) + (wrap64 (rd l0 5)))))) (by omega) (by first | omega | exact of_decide_eq_true (by first | (with_reducible assumption) | assumption)) (of_decide_eq_true (by first | (with_reducible assumption) | assumption)) HC0.out
                  have HR283 := Aside0.mk (Kd.C_of_reads (h1 := fun _ => rfl) (hA22 _ (Kd.reads_of_C HR0.out)))
                  have HC283 := Aside0.mk hC22
                  clear hA22 hC22 hi022 hsz22
                  simp only [show (6 : Int).toNat = 6 from rfl] at hcut22 HR283 HC283
                  generalize (l0.take ((wrap64 (6 + (wrap64 ((wrap64 (256 * (wrap64 (rd l0 4)))) + (wrap64 (rd l0 5)))))) : Int).toNat).drop 6 = l6 at hcut22 HR283 HC283 A8
                  go_enter Try.func30, Try.ntmps30
                  go_wp2
                  go_quiet (fail)
                  go_wp2_with (first | (go_at_call 27; (with_reducible refine (palimpsestref02_Box.calls k (l0.length : Int) _ _ l6 t284 t285 _ ?side1 ?side2 A8.out).mono ?_); (case side1 => exact Kd.C_drewN (by first | exact HR283.out | exact Kd.C_below HR283.out HB.out) _); (case side2 => exact HC283.out); rintro e w15 ⟨v286, rfl, ho0, hb⟩; have HO287 := Aside0.mk (Kd.R_lower ho0 (below_size (pw_below_drewN HB.out _))); have HB15 := Aside0.mk (below_step (pw_below_drewN HB.out _) hb); clear ho0 hb; have hcv16 := own_string (P := Try.prog) Try.underlying22 Try.underlying5 Try.underlying9 (Kd.own_of_R HO287.out); have hcv17 := Kd.C_string (P := Try.prog) (A := (some ad281)) (c := c0) Try.underlying22 Try.underlying5 Try.underlying9 (Kd.C_below HR0.out HB15.out)))
                  go_ret2
                  exact ⟨_, rfl, Kd.R_nil _ _ _ _ _, by first | exact HB15.out | exact pw_below_drewN HB15.out _⟩
              · rw [if_neg c9] at H
                have c9b0 : (t285 == 0) = false := beq_eq_false_iff_ne.mpr c9
                have c9b1 : (t285 != 0) = true := bne_iff_ne.mpr c9
                simp only [Option.some.injEq, Prod.mk.injEq] at H
                obtain ⟨rfl, rfl⟩ := H
                have p281 : 0 ≤ (4 : Int) := (by omega)
                have q281 : 4 < (l0.length : Int) := of_decide_eq_true (by first | (with_reducible assumption) | assumption)
                obtain ⟨ad281, e281, hx281_0⟩ := Kd.at_int HR0.out 4 p281 q281
                cases e281
                (try simp only [show (4 : Int).toNat = 4 from rfl, Nat.reduceMul, Nat.reduceEqDiff, Go.Addr.add, ↓reduceIte] at hx281_0)
                have qi281 : (4 < l0.length) = True := eq_true (by omega)
                (try rw [show ((4 : Int)).toNat = 4 from rfl] at hx281_0)
                replace p281 := eq_true p281
                replace q281 := eq_true q281
                have p282 : 0 ≤ (5 : Int) := (by omega)
                have q282 : 5 < (l0.length : Int) := of_decide_eq_true (by first | (with_reducible assumption) | assumption)
                obtain ⟨ad282, e282, hx282_0⟩ := Kd.at_int HR0.out 5 p282 q282
                obtain rfl : ad281 = ad282 := (by injection e282)
                (try simp only [show (5 : Int).toNat = 5 from rfl, Nat.reduceMul, Nat.reduceEqDiff, Go.Addr.add, ↓reduceIte] at hx282_0)
                have qi282 : (5 < l0.length) = True := eq_true (by omega)
                (try rw [show ((5 : Int)).toNat = 5 from rfl] at hx282_0)
                replace p282 := eq_true p282
                replace q282 := eq_true q282
                obtain ⟨i026, hi026, _, hsz26, _⟩ := info_parts info5
                obtain ⟨A26, hcut26, hA26, hC26⟩ := print_mid_of (P := Try.prog) (Value.int .u8) 0 22 5 .i64 .i64 Try.underlying22 hi026 hsz26 (some ad281) c0 l0 6 (wrap64 (6 + (wrap64 ((wrap64 (256 * (wrap64 (rd l0 4)))) + (wrap64 (rd l0 5)))))) (by omega) (by first | omega | exact of_decide_eq_true (by first | (with_reducible assumption) | assumption)) (of_decide_eq_true (by first | (with_reducible assumption) | assumption)) HC0.out
                have HR283 := Aside0.mk (Kd.C_of_reads (h1 := fun _ => rfl) (hA26 _ (Kd.reads_of_C HR0.out)))
                have HC283 := Aside0.mk hC26
                clear hA26 hC26 hi026 hsz26
                simp only [show (6 : Int).toNat = 6 from rfl] at hcut26 HR283 HC283
                generalize (l0.take ((wrap64 (6 + (wrap64 ((wrap64 (256 * (wrap64 (rd l0 4)))) + (wrap64 (rd l0 5)))))) : Int).toNat).drop 6 = l6 at hcut26 HR283 HC283 A8
                go_enter Try.func30, Try.ntmps30
                go_wp2
                go_quiet (fail)
                go_wp2_with (first | (go_at_call 27; (with_reducible refine (palimpsestref02_Box.calls k (l0.length : Int) _ _ l6 t284 t285 _ ?side1 ?side2 A8.out).mono ?_); (case side1 => exact Kd.C_drewN (by first | exact HR283.out | exact Kd.C_below HR283.out HB.out) _); (case side2 => exact HC283.out); rintro e w15 ⟨v286, rfl, ho0, hb⟩; have HO287 := Aside0.mk (Kd.R_lower ho0 (below_size (pw_below_drewN HB.out _))); have HB15 := Aside0.mk (below_step (pw_below_drewN HB.out _) hb); clear ho0 hb; have hcv16 := own_string (P := Try.prog) Try.underlying22 Try.underlying5 Try.underlying9 (Kd.own_of_R HO287.out); have hcv17 := Kd.C_string (P := Try.prog) (A := (some ad281)) (c := c0) Try.underlying22 Try.underlying5 Try.underlying9 (Kd.C_below HR0.out HB15.out)))
                go_ret2
                exact ⟨_, rfl, Kd.R_nil _ _ _ _ _, by first | exact HB15.out | exact pw_below_drewN HB15.out _⟩
            · rw [if_neg c7] at H
              exact absurd H (by simp)
          · rw [if_neg c6] at H
            exact absurd H (by simp)
      · rw [if_neg c4] at H
        exact absurd H (by simp)
    · rw [if_neg c3] at H
      exact absurd H (by simp)

end Go.Proofs.Ytbphmpncajfaiaa.Py
/- Plain: the document's boxes are the program's. -/
namespace Go.Proofs.Ytbphmpncajfaiaa.M
open Go.RowKit Go.Proofs.Ytbphmpncajfaiaa.Py Go.Proofs.YtbphmpncajfaiaaW.PrintWords
set_option linter.unusedVariables false
set_option linter.unusedSimpArgs false
theorem refbox_l0 (a0 : Int) (ha : 6 ≤ a0) (ha' : a0 ≤ 65536) : ∀ (n : Nat) (x : List Int), x.length + n = a0.toNat - 4 → Bytes x →
    Comes (fun k => palimpsestref02_Box.l0 k a0 x) (be32 (crc (x ++ List.replicate n 0)) ++ (x ++ List.replicate n 0), 0)
  | 0, x, hx, hb => by
    rw [List.replicate_zero, List.append_nil]
    have hw : wrap64 (a0 - 4) = a0 - 4 := by unfold wrap64; omega
    have hc : crc x = crc x := rfl
    refine Comes.step (g := fun k => (palimpsestref02_Check.f k x).bind fun t258 => ((some (([(t258 / 16777216) % 256, (t258 / 65536) % 256, (t258 / 256) % 256, (t258) % 256] : List Int) : List Int)).bind fun y259 => (if y259.length + x.length < 140737488355328 then (some ((y259 ++ x), 0)) else (none)))) ?_ (fun k => ?_)
    · refine Comes.bind (r := crc x) (Comes.of _ (fun k hk => ref_check hb (by omega) k hk)) ?_
      refine Comes.congr (g := fun _ => some (be32 (crc x) ++ x, 0)) Comes.now (fun k => ?_)
      simp only [Option.bind_some]
      rw [if_pos (by simp; omega)]
      rfl
    · simp only [palimpsestref02_Box.l0]
      rw [if_neg (by omega)]
  | n + 1, x, hx, hb => by
    have hw : wrap64 (a0 - 4) = a0 - 4 := by unfold wrap64; omega
    have ih := refbox_l0 a0 ha ha' n (x ++ [0]) (by simp; omega) (hb.append (fun z hz => by rw [List.mem_singleton] at hz; omega))
    rw [List.append_assoc, show [(0 : Int)] ++ List.replicate n 0 = List.replicate (n + 1) 0 from rfl] at ih
    refine Comes.step ih (fun k => ?_)
    simp only [palimpsestref02_Box.l0]
    rw [if_pos (by omega), if_pos (by omega)]
theorem ref_box (a0 : Int) {fl : List Int} (hb : Bytes fl) (hl : fl.length ≤ 140737488355000) : Comes (fun k => palimpsestref02_Box.f k a0 fl) ((boxOf a0 fl).1, (boxOf a0 fl).2.getD 0) := by
  by_cases h1 : a0 < 6
  · have hr : boxOf a0 fl = ([], some 1) := by unfold boxOf; rw [if_pos (by omega)]
    rw [hr]
    refine Comes.step (g := fun _ => some ([], 1)) Comes.now (fun k => ?_)
    simp only [palimpsestref02_Box.f, palimpsestref02_Box.j0]
    rw [if_pos h1]
    rfl
  · by_cases h2 : a0 > 65536
    · have hr : boxOf a0 fl = ([], some 1) := by unfold boxOf; rw [if_pos (by omega)]
      rw [hr]
      refine Comes.step (g := fun _ => some ([], 1)) Comes.now (fun k => ?_)
      simp only [palimpsestref02_Box.f, palimpsestref02_Box.j0]
      rw [if_neg h1, if_pos (decide_eq_true h2)]
    · have hw : wrap64 (a0 - 6) = a0 - 6 := by unfold wrap64; omega
      by_cases h3 : (fl.length : Int) > a0 - 6
      · have hr : boxOf a0 fl = ([], some 2) := by unfold boxOf; rw [if_neg (by omega), if_pos (by omega)]
        rw [hr]
        refine Comes.step (g := fun k => palimpsestref02_Box.j1 k a0 fl true) (Comes.step (g := fun _ => some ([], 2)) Comes.now (fun k => ?_)) (fun k => ?_)
        · simp only [palimpsestref02_Box.j1]
          rfl
        · simp only [palimpsestref02_Box.f, palimpsestref02_Box.j0]
          rw [if_neg h1, if_neg (by simpa using h2), hw, if_pos h3]
      · by_cases h4 : (fl.length : Int) > 65535
        · have hr : boxOf a0 fl = ([], some 2) := by unfold boxOf; rw [if_neg (by omega), if_pos (by omega)]
          rw [hr]
          refine Comes.step (g := fun k => palimpsestref02_Box.j1 k a0 fl true) (Comes.step (g := fun _ => some ([], 2)) Comes.now (fun k => ?_)) (fun k => ?_)
          · simp only [palimpsestref02_Box.j1]
            rfl
          · simp only [palimpsestref02_Box.f, palimpsestref02_Box.j0]
            rw [if_neg h1, if_neg (by simpa using h2), hw, if_neg h3, decide_eq_true h4]
        · have hr : boxOf a0 fl = (be32 (crc (body a0.toNat fl)) ++ body a0.toNat fl, none) := by unfold boxOf; rw [if_neg (by omega), if_neg (by omega)]
          rw [hr]
          have e1 : wrap64 ((fl.length : Int) / 256) = (fl.length : Int) / 256 := by unfold wrap64; omega
          have h5 := refbox_l0 a0 (by omega) (by omega) (a0.toNat - 6 - fl.length) ([((fl.length : Int) / 256) % 256, (fl.length : Int) % 256] ++ fl) (by simp; omega) ((Bytes.append (fun x hx => by
            simp only [List.mem_cons, List.not_mem_nil, or_false] at hx
            rcases hx with rfl | rfl <;> omega) hb))
          refine Comes.step (g := fun k => palimpsestref02_Box.j1 k a0 fl false) (Comes.step h5 (fun k => ?_)) (fun k => ?_)
          · simp only [palimpsestref02_Box.j1, e1]
            rw [if_neg (by decide)]
            simp only [Option.bind_some]
            rw [if_pos (by simp; omega)]
          · simp only [palimpsestref02_Box.f, palimpsestref02_Box.j0]
            rw [if_neg h1, if_neg (by simpa using h2), hw, if_neg h3, decide_eq_false h4]
theorem ref_unbox {b : List Int} (hb : Bytes b) (hl : b.length ≤ 140737488355000) : Comes (fun k => palimpsestref02_Unbox.f k b) ((unboxOf b).1, (unboxOf b).2.isNone) := by
  by_cases h1 : (b.length : Int) < 6
  · have hr : unboxOf b = ([], some 4) := by unfold unboxOf; rw [if_pos (by omega)]
    rw [hr]
    refine Comes.congr (g := fun _ => some ([], false)) Comes.now (fun k => ?_)
    simp only [palimpsestref02_Unbox.f]
    rw [if_pos h1]
  · have r4 := rd_bytes hb 4 (by omega)
    have r5 := rd_bytes hb 5 (by omega)
    have e4 : wrap64 (256 * wrap64 (rd b 4)) = 256 * rd b 4 := by unfold wrap64; omega
    have e5 : wrap64 (rd b 5) = rd b 5 := by unfold wrap64; omega
    have e6 : wrap64 ((b.length : Int) - 6) = b.length - 6 := by unfold wrap64; omega
    have e7 : wrap64 (256 * rd b 4 + rd b 5) = 256 * rd b 4 + rd b 5 := by unfold wrap64; omega
    have e8 : wrap64 (6 + (256 * rd b 4 + rd b 5)) = 6 + (256 * rd b 4 + rd b 5) := by unfold wrap64; omega
    by_cases h3 : (b.length : Int) - 6 < 256 * rd b 4 + rd b 5
    · have hr : unboxOf b = ([], some 4) := by
        unfold unboxOf
        by_cases h2 : 65536 < b.length
        · rw [if_pos (by omega)]
        · rw [if_neg (by omega), if_pos h3]
      rw [hr]
      refine Comes.congr (g := fun _ => some ([], false)) Comes.now (fun k => ?_)
      simp only [palimpsestref02_Unbox.f]
      rw [if_neg h1, if_pos (by omega), if_pos (by omega), e4, e5, e7, e6, if_pos (by omega)]
    · generalize hin : (b.take (6 + (256 * rd b 4 + rd b 5)).toNat).drop 6 = inn
      have hinb : Bytes inn := by rw [← hin]; exact (hb.take _).drop 6
      have hinl : inn.length ≤ b.length := by rw [← hin]; simp; omega
      have hbx := ref_box (b.length : Int) hinb (by omega)
      have hr : unboxOf b = if boxOf b.length inn = (b, none) then (inn, none) else ([], some 4) := by
        by_cases h2 : 65536 < b.length
        · have hbo : boxOf b.length inn = ([], some 1) := by unfold boxOf; rw [if_pos (by omega)]
          rw [hbo, if_neg (fun q => by injection q with _ q; cases q)]
          unfold unboxOf
          rw [if_pos (by omega)]
        · unfold unboxOf
          rw [if_neg (by omega), if_neg h3, hin]
      rw [hr]
      refine Comes.congr (g := fun k => (palimpsestref02_Box.f k (b.length : Int) inn).bind fun bt284 => (if bt284.2 = 0 then (if (strOfNums bt284.1).toList = (strOfNums b).toList then ((some (([] : List Int) : List Int)).bind fun y288 => (if y288.length + inn.length < 140737488355328 then (some ((y288 ++ inn), true)) else (none))) else (some (([] : List Int), false))) else (some (([] : List Int), false)))) ?_ (fun k => ?_)
      · refine Comes.bind hbx ?_
        have hbb := boxOf_bytes (size := (b.length : Int)) hinb
        have hee : ∀ e, (boxOf (b.length : Int) inn).2 = some e → e ≠ 0 := by
          intro e he
          unfold boxOf at he
          split at he
          · injection he with he; omega
          · split at he
            · injection he with he; omega
            · cases he
        generalize boxOf (b.length : Int) inn = bx at hbb hee ⊢
        obtain ⟨bl, be⟩ := bx
        cases be with
        | some e =>
          have := hee e rfl
          refine Comes.congr (g := fun _ => some ([], false)) ?_ (fun k => ?_)
          · rw [if_neg (show ¬ ((bl, some e) = (b, (none : Option Int))) from fun q => by injection q with _ q; cases q)]
            exact Comes.now
          · simp only [Option.getD_some]
            rw [if_neg this]
        | none =>
          by_cases hq : bl = b
          · subst hq
            refine Comes.congr (g := fun _ => some (inn, true)) ?_ (fun k => ?_)
            · rw [if_pos rfl]
              exact Comes.now
            · simp only [Option.getD_none, if_true, Option.bind_some]
              rw [if_pos (by simp; omega)]
              rfl
          · refine Comes.congr (g := fun _ => some ([], false)) ?_ (fun k => ?_)
            · rw [if_neg (by simpa using hq)]
              exact Comes.now
            · simp only [Option.getD_none, if_true]
              rw [if_neg (fun e => hq (str_inj hbb hb e))]
      · simp only [palimpsestref02_Unbox.f]
        rw [if_neg h1, if_pos (by omega), if_pos (by omega), e4, e5, e7, e6, if_neg (by omega), e8, if_pos (by omega), if_pos (by omega), hin]
theorem num_f (e : Option Int) (h : ∀ x, e = some x → x ≠ 0) : palimpsestnum_Num.f e = some (e.getD 0) := by
  cases e with
  | none => rfl
  | some x =>
    unfold palimpsestnum_Num.f
    simp [h x rfl]
theorem boxOf_code {size : Int} {fl : List Int} : ∀ x, (boxOf size fl).2 = some x → x ≠ 0 := by
  intro e he
  unfold boxOf at he
  split at he
  · injection he with he; omega
  · split at he
    · injection he with he; omega
    · cases he
theorem unbox_two (b : List Int) : unboxOf b = ((unboxOf b).1, none) ∨ unboxOf b = ([], some 4) := by
  cases h : (unboxOf b).2 with
  | none => exact .inl (by rw [← h])
  | some e => exact .inr (unbox_err (by rw [h]; simp))
/-- What was put into a box comes out. -/
theorem unbox_box {size : Int} {fl : List Int} (h : (boxOf size fl).2 = none) : unboxOf (boxOf size fl).1 = (fl, none) := by
  obtain ⟨h1, h2, h3, h4, h5⟩ := boxOf_ok h
  have hlen := boxOf_len h
  have hbx : boxOf size fl = ((boxOf size fl).1, none) := by rw [← h]
  have e4 : rd (boxOf size fl).1 4 = ((fl.length : Int) / 256) % 256 := by rw [h5]; rfl
  have e5 : rd (boxOf size fl).1 5 = (fl.length : Int) % 256 := by rw [h5]; rfl
  have en : 256 * rd (boxOf size fl).1 4 + rd (boxOf size fl).1 5 = fl.length := by rw [e4, e5]; omega
  have et : ((boxOf size fl).1.take (6 + (fl.length : Int)).toNat).drop 6 = fl := by
    have e6 : (6 + (fl.length : Int)).toNat = 6 + fl.length := by omega
    rw [e6, h5]
    simp [be32, body, show 6 + fl.length = fl.length + 1 + 1 + 1 + 1 + 1 + 1 by omega]
  unfold unboxOf
  rw [if_neg (by omega), if_neg (by rw [en]; omega), en, et, hlen, if_pos hbx]
end Go.Proofs.Ytbphmpncajfaiaa.M
-- PRINTED by print.py (a twelfth state) out of the translation. Not trusted: Lean checks it.
namespace Go.Proofs.Ytbphmpncajfaiaa.Py
open Go.RowKit Go.Proofs.YtbphmpncajfaiaaW.PrintWords Go.Proofs.YtbphmpncajfaiaaW.PrintLast Go.Proofs.YtbphmpncajfaiaaW.PrintMore
attribute [local go_sem] max2_int min2_int max_two min_two max_three min_three max_four min_four   -- for this text's walks alone
set_option linter.unusedVariables false
set_option linter.unusedSimpArgs false

/-! ### wire_PutRow: function 20 -/
def wire_PutRow.f (k : Nat) (l0 : List Int) (l1 : List Int) : Option (List Int) := (wire_Put.f k l0 (([(l1.length : Int)] : List Int))).bind fun t214 => (if t214.length + l1.length < 140737488355328 then (some (t214 ++ l1)) else (none))
theorem wire_PutRow.mono : ∀ a0 a1 k, LeO (wire_PutRow.f k a0 a1) (wire_PutRow.f (k + 1) a0 a1) := by
  intro a0 a1 k
  unfold wire_PutRow.f
  repeat' first
      | (with_reducible exact wire_Put.mono _ _ _)
      | (with_reducible exact LeO.refl _)
      | (with_reducible exact LeO.none _)
      | (with_reducible refine LeO.ite ?_ ?_)
      | (with_reducible refine LeO.bind ?_ (fun _ => ?_))
      | exact wire_Put.mono _ _ _
      | exact LeO.none _
      | refine LeO.ite ?_ ?_
      | refine LeO.bind ?_ (fun _ => ?_)
set_option maxHeartbeats 8000000 in
set_option maxRecDepth 100000 in
theorem wire_PutRow.calls (k : Nat) (A0 : Option Addr) (c0 : Nat) (l0 : List Int) (A1 : Option Addr) (c1 : Nat) (l1 : List Int) (r : List Int) (w : World) (hr0 : Kd.C (Kd.int .u8) w A0 l0.length l0) (hc0 : l0.length ≤ c0) (hr1 : Kd.C (Kd.int .u8) w A1 l1.length l1) (hc1 : l1.length ≤ c1) (h : wire_PutRow.f k l0 l1 = some r) :
    Calls Try.prog 20 #[.slice A0 l0.length c0, .slice A1 l1.length c1] w fun e w' => ∃ v0_ : Value, e = .returned (v0_) ∧ Kd.R (Kd.int .u8) 5 w' w.heap.size (fun _ => True) v0_ r ∧ Below w.heap.size w w' := by
  have HR0 := Aside0.mk hr0
  have HC0 := Aside0.mk hc0
  clear hr0 hc0
  have HR1 := Aside0.mk hr1
  have HC1 := Aside0.mk hc1
  clear hr1 hc1
  have HB := Aside0.mk (Below.refl w.heap.size w)
  have H : ((wire_Put.f k l0 (([(l1.length : Int)] : List Int))).bind fun t214 => (if t214.length + l1.length < 140737488355328 then (some (t214 ++ l1)) else (none))) = some r := h
  clear h
  obtain ⟨y211, hy211⟩ : ∃ y_ : List Int, y_ = (([(l1.length : Int)] : List Int)) := ⟨_, rfl⟩
  replace H : ((wire_Put.f k l0 y211).bind fun t214 => (if t214.length + l1.length < 140737488355328 then (some (t214 ++ l1)) else (none))) = some r := by first | (rw [hy211]; with_reducible exact H) | (have H2_ := (Option.bind_some _ _).symm.trans H; rw [hy211]; with_reducible exact H2_) | (have H2_ := (Option.bind_some _ _).symm.trans H; with_reducible exact H2_) | with_reducible exact H | (rw [hy211]; exact H) | exact H
  have Ny211 := Aside0.mk hy211
  clear hy211
  replace H := Option.bind_eq_some_iff.mp H
  obtain ⟨t214, A30, H⟩ := H
  replace H : (if t214.length + l1.length < 140737488355328 then (some (t214 ++ l1)) else (none)) = some r := H
  have A3 := Aside0.mk A30
  clear A30
  by_cases c4 : t214.length + l1.length < 140737488355328
  · rw [if_pos c4] at H
    have LMc4 := Aside0.mk c4
    clear c4
    obtain ⟨y217, hy217⟩ : ∃ y_ : List Int, y_ = (t214 ++ l1) := ⟨_, rfl⟩
    replace H : (some y217) = some r := by first | (rw [hy217]; with_reducible exact H) | (have H2_ := (Option.bind_some _ _).symm.trans H; rw [hy217]; with_reducible exact H2_) | (have H2_ := (Option.bind_some _ _).symm.trans H; with_reducible exact H2_) | with_reducible exact H | (rw [hy217]; exact H) | exact H
    have Ny217 := Aside0.mk hy217
    clear hy217
    obtain rfl := Option.some.inj H
    go_enter Try.func20, Try.ntmps20
    go_wp2_with (first | ((with_reducible refine gate_dst (N := 8) rfl ?_); refine Kd.R_lit (Kd.int .i64) _ 3 ?hg (N := 8) ?hd (xs := ([(l1.length : Int)] : List Int)) (inner := [.int .i64 (l1.length : Int)]) (ok := fun _ => True) (okp := fun _ => True) ?hr ?hp (fun _ hk => hk) trivial (Below.refl _ _) (Nat.le_refl _) (by simp) ?_; (case hd => rfl); (case hg => rfl); (case hr => first | (go_simp; done) | (go_simp; rfl)); (case hp => exact (Reps.one (show Kd.M (Kd.int .i64) _ _ _ (l1.length : Int) [.int .i64 (l1.length : Int)] from rfl) (Reps.none _ _))); intro v212 w5 ho6 hb hg_ hnew_; clear hg_ hnew_; (first | rw [← Ny211.out] at ho6 | (simp only [Int.reduceToNat] at ho6; rw [← Ny211.out] at ho6)); have n0_ := Aside0.mk (Kd.R_lower ho6 (below_size (by repeat (first | (with_reducible first | exact HB.out | apply below_alloc | apply pw_below_drewN | apply below_drew1) | exact HB.out)))); have n1_ := Aside0.mk (below_step (by repeat (first | (with_reducible first | exact HB.out | apply below_alloc | apply pw_below_drewN | apply below_drew1) | exact HB.out)) hb); clear HB; have HO213 := n0_; have HB := n1_; clear n0_ n1_; clear hb ho6; obtain ⟨Ao7, co7, eo7⟩ := Kd.R_slice HO213.out; subst eo7) | ((with_reducible refine gate_callee (f := 19) rfl ?_); refine goesL_ (some 9) rfl rfl Try.func19 (by kernel_rfl) rfl #[.slice A0 l0.length c0, .slice Ao7 y211.length co7] rfl (by (try simp only [List.map_toArray, List.map_cons, List.map_nil]); first | done | rfl | (simp only [List.length_drop, List.length_take]; rfl)) ?_; (with_reducible refine (wire_Put.calls k _ _ l0 _ _ y211 t214 _ ?side1 ?side2 ?side3 ?side4 A3.out).mono ?_); (case side1 => repeat (first | exact (Kd.C_below HR0.out HB.out) | (with_reducible refine Kd.C_alloc ?_ _) | (with_reducible refine Kd.C_drewN ?_ _) | (with_reducible refine Kd.C_drew ?_))); (case side2 => exact HC0.out); (case side3 => repeat (first | exact (Kd.R_reads' HO213.out).2.2 | (with_reducible refine Kd.C_alloc ?_ _) | (with_reducible refine Kd.C_drewN ?_ _) | (with_reducible refine Kd.C_drew ?_))); (case side4 => exact (Kd.R_reads' HO213.out).2.1); rintro e w8 ⟨v215, rfl, ho0, hb⟩; refine ⟨_, rfl, ?_⟩; have n0_ := Aside0.mk (Kd.R_below (by (with_reducible repeat (first | apply Kd.R_alloc | apply Kd.R_drewN | apply Kd.R_drew)); exact HO213.out) hb); have n1_ := Aside0.mk (Kd.R_lower ho0 (below_size (by repeat (first | (with_reducible first | exact HB.out | apply below_alloc | apply pw_below_drewN | apply below_drew1) | exact HB.out)))); have n2_ := Aside0.mk (below_step (by repeat (first | (with_reducible first | exact HB.out | apply below_alloc | apply pw_below_drewN | apply below_drew1) | exact HB.out)) hb); clear HO213; clear HB; have HO213 := n0_; have HO216 := n1_; have HB := n2_; clear n0_ n1_ n2_; (try clear hb); (try clear hb2); (try clear hk); (try clear hi); (try clear ho0)) | ((with_reducible refine gate_builtin (b := .append) (xs := #[.tmp 9, .tmp 10]) rfl ?_); at_builtin; refine Kd.R_append_rows (Kd.int .u8) (w0 := w) w.heap.size rfl (.tmp 9) (.tmp 10) 22 5 (.int .u8 0) 1 rfl Try.underlying22 info5 rfl (by decide) (by omega) v215 t214 l1 _ _ _ (fun _ => True) (fun _ => False) rfl rfl ?aO ?aR (fun _ _ h => h) (fun _ h => h.elim) ?aF ?aB ?aS ?aL ?_; (case aR => repeat (first | exact (Kd.C_below HR1.out HB.out) | (with_reducible refine Kd.C_alloc ?_ _) | (with_reducible refine Kd.C_drewN ?_ _) | (with_reducible refine Kd.C_drew ?_))); (case aB => exact (by repeat (first | (with_reducible first | exact HB.out | apply below_alloc | apply pw_below_drewN | apply below_drew1) | exact HB.out))); (case aF => exact (fun _ _ => trivial)); (case aO => exact (by (with_reducible repeat (first | apply Kd.R_alloc | apply Kd.R_drewN | apply Kd.R_drew)); exact HO216.out)); (case aS => exact (below_size (by repeat (first | (with_reducible first | exact HB.out | apply below_alloc | apply pw_below_drewN | apply below_drew1) | exact HB.out)))); (case aL => have := LMc4.out; omega); intro v218 w9 ho hb hg hat; rw [← Ny217.out] at ho; have n0_ := Aside0.mk (Kd.R_over' (by (with_reducible repeat (first | apply Kd.R_alloc | apply Kd.R_drewN | apply Kd.R_drew)); exact HO213.out) (Kd.R_typed (by (with_reducible repeat (first | apply Kd.R_alloc | apply Kd.R_drewN | apply Kd.R_drew)); exact HO216.out)) (by decide) hg); have n1_ := Aside0.mk (hb); have n2_ := Aside0.mk (ho); clear HO213; clear HB; clear HO216; have HO213 := n0_; have HB := n1_; have HO219 := n2_; clear n0_ n1_ n2_; clear ho hb hg hat))
    go_ret
    exact ⟨_, by first | rfl | (simp [errW_none, errW_some] <;> rfl) | (simp [*, errW_none, errW_some] <;> rfl), by (with_reducible repeat (first | apply Kd.R_alloc | apply Kd.R_drewN | apply Kd.R_drew)); exact HO219.out, by repeat (first | (with_reducible first | exact HB.out | apply below_alloc | apply pw_below_drewN | apply below_drew1) | exact HB.out)⟩
  · rw [if_neg c4] at H
    exact absurd H (by simp)

end Go.Proofs.Ytbphmpncajfaiaa.Py
-- PRINTED by print.py (a twelfth state) out of the translation. Not trusted: Lean checks it.
namespace Go.Proofs.Ytbphmpncajfaiaa.Py
open Go.RowKit Go.Proofs.YtbphmpncajfaiaaW.PrintWords Go.Proofs.YtbphmpncajfaiaaW.PrintLast Go.Proofs.YtbphmpncajfaiaaW.PrintMore
attribute [local go_sem] max2_int min2_int max_two min_two max_three min_three max_four min_four   -- for this text's walks alone
set_option linter.unusedVariables false
set_option linter.unusedSimpArgs false

/-! ### palimpsestnum_Ints: function 24 -/
def palimpsestnum_Ints.l0 : Nat → List Int → List Int → Int → Int → Option (Bool)
  | 0, _, _, _, _ => none
  | k + 1, x0, x1, x12, x13 => if x13 < x12 then (if 0 ≤ x13 then (if x13 < (x0.length : Int) then (if x13 < (x1.length : Int) then (if (rd x0 x13) = (rd x1 x13) then (palimpsestnum_Ints.l0 k x0 x1 x12 (wrap64 (x13 + 1))) else (some false)) else (none)) else (none)) else (none)) else (some true)
def palimpsestnum_Ints.f (k : Nat) (l0 : List Int) (l1 : List Int) : Option (Bool) := if (l0.length : Int) = (l1.length : Int) then (palimpsestnum_Ints.l0 k l0 l1 (l0.length : Int) 0) else (some false)
theorem palimpsestnum_Ints.mono_l : ∀ k, (∀ y0 y1 y2 y3, LeO (palimpsestnum_Ints.l0 k y0 y1 y2 y3) (palimpsestnum_Ints.l0 (k + 1) y0 y1 y2 y3))
  | 0 => fun _ _ _ _ r h => by simp [palimpsestnum_Ints.l0] at h
  | k + 1 => by
    have ih0 := palimpsestnum_Ints.mono_l k
    · intro y0 y1 y2 y3
      unfold palimpsestnum_Ints.l0
      repeat' first
      | (with_reducible exact ih0 _ _ _ _)
      | (with_reducible exact LeO.refl _)
      | (with_reducible exact LeO.none _)
      | (with_reducible refine LeO.ite ?_ ?_)
      | (with_reducible refine LeO.bind ?_ (fun _ => ?_))
      | exact ih0 _ _ _ _
      | exact LeO.none _
      | refine LeO.ite ?_ ?_
      | refine LeO.bind ?_ (fun _ => ?_)
theorem palimpsestnum_Ints.mono : ∀ a0 a1 k, LeO (palimpsestnum_Ints.f k a0 a1) (palimpsestnum_Ints.f (k + 1) a0 a1) := by
  intro a0 a1 k
  have ih0 := palimpsestnum_Ints.mono_l k
  unfold palimpsestnum_Ints.f
  repeat' first
      | (with_reducible exact ih0 _ _ _ _)
      | (with_reducible exact LeO.refl _)
      | (with_reducible exact LeO.none _)
      | (with_reducible refine LeO.ite ?_ ?_)
      | (with_reducible refine LeO.bind ?_ (fun _ => ?_))
      | exact ih0 _ _ _ _
      | exact LeO.none _
      | refine LeO.ite ?_ ?_
      | refine LeO.bind ?_ (fun _ => ?_)
set_option maxHeartbeats 8000000 in
set_option maxRecDepth 100000 in
theorem palimpsestnum_Ints.calls (k : Nat) (A0 : Option Addr) (c0 : Nat) (l0 : List Int) (A1 : Option Addr) (c1 : Nat) (l1 : List Int) (r : Bool) (w : World) (hr0 : Kd.C (Kd.int .i64) w A0 l0.length l0) (hc0 : l0.length ≤ c0) (hr1 : Kd.C (Kd.int .i64) w A1 l1.length l1) (hc1 : l1.length ≤ c1) (h : palimpsestnum_Ints.f k l0 l1 = some r) :
    Calls Try.prog 24 #[.slice A0 l0.length c0, .slice A1 l1.length c1] w fun e w' => e = .returned (.bool r) ∧ Drawn0 w w' := by
  have HR0 := Aside0.mk hr0
  have HC0 := Aside0.mk hc0
  clear hr0 hc0
  have HR1 := Aside0.mk hr1
  have HC1 := Aside0.mk hc1
  clear hr1 hc1
  have H : (if (l0.length : Int) = (l1.length : Int) then (palimpsestnum_Ints.l0 k l0 l1 (l0.length : Int) 0) else (some false)) = some r := h
  clear h
  by_cases c3 : (l0.length : Int) = (l1.length : Int)
  · rw [if_pos c3] at H
    have c3b0 : ((l0.length : Int) == (l1.length : Int)) = true := beq_iff_eq.mpr c3
    have c3b1 : ((l0.length : Int) != (l1.length : Int)) = false := bne_eq_false_iff_eq.mpr c3
    have c3b2 : (l0.length == l1.length) = true := by first | simpa using c3 | (simp at c3 ⊢; omega)
    clear c3
    have H' := Aside0.mk H
    clear H
    go_enter Try.func24, Try.ntmps24
    go_wp2
    repeat (go_quiet (fail); try go_wp2)
    go_loopg [13] k (fun kq v13 w' => ∃ (x13_1 : Int), v13 = .int .i64 x13_1 ∧ Aside0 (palimpsestnum_Ints.l0 kq l0 l1 (l0.length : Int) x13_1 = some r) ∧ Aside0 (kq ≤ k) ∧ Drawn0 w w')
    case atStart => exact ⟨(0), (by first | rfl | (simp; done) | (simp [*]; done)), H', ⟨Nat.le_refl _⟩, by repeat (first | exact Drawn0.refl _ | apply Drawn0.step)⟩
    case round =>
      clear H'
      try clear c1
      try clear c2
      try clear p2
      try clear c3
      try clear c3b0
      try clear c3b1
      try clear c3b2
      obtain ⟨x13_1, rfl, HA, HK1, ⟨m1, rfl⟩⟩ := hrel
      cases gk with
      | zero => exact absurd HA.out (by simp [palimpsestnum_Ints.l0])
      | succ k1 =>
        have H := HA.out
        clear HA
        simp only [palimpsestnum_Ints.l0] at H
        by_cases c4 : x13_1 < (l0.length : Int)
        · rw [if_pos c4] at H
          have c4b0 : decide (x13_1 < (l0.length : Int)) = true := decide_eq_true c4
          clear c4
          by_cases c5 : 0 ≤ x13_1
          · rw [if_pos c5] at H
            have c5b0 : decide (0 ≤ x13_1) = true := decide_eq_true c5
            clear c5
            by_cases c6 : x13_1 < (l0.length : Int)
            · rw [if_pos c6] at H
              have c6b0 : decide (x13_1 < (l0.length : Int)) = true := decide_eq_true c6
              clear c6
              by_cases c7 : x13_1 < (l1.length : Int)
              · rw [if_pos c7] at H
                have c7b0 : decide (x13_1 < (l1.length : Int)) = true := decide_eq_true c7
                clear c7
                by_cases c8 : (rd l0 x13_1) = (rd l1 x13_1)
                · rw [if_pos c8] at H
                  have c8b0 : ((rd l0 x13_1) == (rd l1 x13_1)) = true := beq_iff_eq.mpr c8
                  have c8b1 : ((rd l0 x13_1) != (rd l1 x13_1)) = false := bne_eq_false_iff_eq.mpr c8
                  clear c8
                  have H' := Aside0.mk H
                  clear H
                  have p245 : 0 ≤ (x13_1 : Int) := of_decide_eq_true (by first | (with_reducible assumption) | assumption)
                  have q245 : x13_1 < (l0.length : Int) := of_decide_eq_true (by first | (with_reducible assumption) | assumption)
                  obtain ⟨ad245, e245, hx245_0⟩ := Kd.at_int HR0.out x13_1 p245 q245
                  cases e245
                  replace p245 := eq_true p245
                  replace q245 := eq_true q245
                  have p246 : 0 ≤ (x13_1 : Int) := of_decide_eq_true (by first | (with_reducible assumption) | assumption)
                  have q246 : x13_1 < (l1.length : Int) := of_decide_eq_true (by first | (with_reducible assumption) | assumption)
                  obtain ⟨ad246, e246, hx246_0⟩ := Kd.at_int HR1.out x13_1 p246 q246
                  cases e246
                  replace p246 := eq_true p246
                  replace q246 := eq_true q246
                  go_wp2
                  repeat (go_quiet (fail); try go_wp2)
                  go_roundg k1
                  case measure => have := HK1.out; omega
                  case rel => exact ⟨(wrap64 (x13_1 + 1)), (by first | rfl | (simp; done) | (simp [*]; done)), H', ⟨by have := HK1.out; omega⟩, by repeat (first | exact Drawn0.refl _ | apply Drawn0.step)⟩
                · rw [if_neg c8] at H
                  have c8b0 : ((rd l0 x13_1) == (rd l1 x13_1)) = false := beq_eq_false_iff_ne.mpr c8
                  have c8b1 : ((rd l0 x13_1) != (rd l1 x13_1)) = true := bne_iff_ne.mpr c8
                  obtain rfl := Option.some.inj H
                  have p245 : 0 ≤ (x13_1 : Int) := of_decide_eq_true (by first | (with_reducible assumption) | assumption)
                  have q245 : x13_1 < (l0.length : Int) := of_decide_eq_true (by first | (with_reducible assumption) | assumption)
                  obtain ⟨ad245, e245, hx245_0⟩ := Kd.at_int HR0.out x13_1 p245 q245
                  cases e245
                  replace p245 := eq_true p245
                  replace q245 := eq_true q245
                  have p246 : 0 ≤ (x13_1 : Int) := of_decide_eq_true (by first | (with_reducible assumption) | assumption)
                  have q246 : x13_1 < (l1.length : Int) := of_decide_eq_true (by first | (with_reducible assumption) | assumption)
                  obtain ⟨ad246, e246, hx246_0⟩ := Kd.at_int HR1.out x13_1 p246 q246
                  cases e246
                  replace p246 := eq_true p246
                  replace q246 := eq_true q246
                  go_wp2
                  repeat (go_quiet (fail); try go_wp2)
                  go_ret
                  exact ⟨by first | rfl | (simp; done) | (simp [*]; done), by repeat (first | exact Drawn0.refl _ | apply Drawn0.step)⟩
              · rw [if_neg c7] at H
                exact absurd H (by simp)
            · rw [if_neg c6] at H
              exact absurd H (by simp)
          · rw [if_neg c5] at H
            exact absurd H (by simp)
        · rw [if_neg c4] at H
          have c4b0 : decide (x13_1 < (l0.length : Int)) = false := decide_eq_false c4
          clear c4
          obtain rfl := Option.some.inj H
          go_wp2
          repeat (go_quiet (fail); try go_wp2)
          go_ret
          exact ⟨by first | rfl | (simp; done) | (simp [*]; done), by repeat (first | exact Drawn0.refl _ | apply Drawn0.step)⟩
  · rw [if_neg c3] at H
    have c3b0 : ((l0.length : Int) == (l1.length : Int)) = false := beq_eq_false_iff_ne.mpr c3
    have c3b1 : ((l0.length : Int) != (l1.length : Int)) = true := bne_iff_ne.mpr c3
    have c3b2 : (l0.length == l1.length) = false := by first | simpa using c3 | (simp at c3 ⊢; omega)
    obtain rfl := Option.some.inj H
    go_enter Try.func24, Try.ntmps24
    go_wp2
    repeat (go_quiet (fail); try go_wp2)
    go_ret
    exact ⟨by first | rfl | (simp; done) | (simp [*]; done), by repeat (first | exact Drawn0.refl _ | apply Drawn0.step)⟩

end Go.Proofs.Ytbphmpncajfaiaa.Py
-- PRINTED by print.py (a twelfth state) out of the translation. Not trusted: Lean checks it.
namespace Go.Proofs.Ytbphmpncajfaiaa.Py
open Go.RowKit Go.Proofs.YtbphmpncajfaiaaW.PrintWords Go.Proofs.YtbphmpncajfaiaaW.PrintLast Go.Proofs.YtbphmpncajfaiaaW.PrintMore
attribute [local go_sem] max2_int min2_int max_two min_two max_three min_three max_four min_four   -- for this text's walks alone
set_option linter.unusedVariables false
set_option linter.unusedSimpArgs false

/-! ### wire_Takes: function 33 -/
mutual
def wire_Takes.j0 : Nat → List Int → Int → Bool → Option (List Int × List Int × Option Int)
  | 0, _, _, _ => none
  | k + 1, x0, x1, x15 => if x15 = true then (some (([] : List Int), ([] : List Int), some 1)) else (wire_Takes.l0 k x0 ([] : List Int) x1 0)
def wire_Takes.l0 : Nat → List Int → List Int → Int → Int → Option (List Int × List Int × Option Int)
  | 0, _, _, _, _ => none
  | k + 1, x0, x7, x17, x18 => if x18 < x17 then ((wire_take.f k x0).bind fun bt322 => (if bt322.2 = 0 then (some (([] : List Int), ([] : List Int), some 4)) else (if x7.length < 17592186044416 then (if 0 ≤ bt322.2 then (if bt322.2 ≤ (x0.length : Int) then (wire_Takes.l0 k (x0.drop (bt322.2 : Int).toNat) (x7 ++ [bt322.1]) x17 (wrap64 (x18 + 1))) else (none)) else (none)) else (none)))) else ((slices_Clone_byte_byte.f x0).bind fun t332 => (some (x7, t332, none)))
end
def wire_Takes.f (k : Nat) (l0 : List Int) (a1 : Int) : Option (List Int × List Int × Option Int) := if a1 < 0 then (wire_Takes.j0 k l0 a1 true) else (wire_Takes.j0 k l0 a1 (decide (a1 > 4096)))
theorem wire_Takes.mono_l : ∀ k, (∀ y0 y1 y2, LeO (wire_Takes.j0 k y0 y1 y2) (wire_Takes.j0 (k + 1) y0 y1 y2)) ∧ (∀ y0 y1 y2 y3, LeO (wire_Takes.l0 k y0 y1 y2 y3) (wire_Takes.l0 (k + 1) y0 y1 y2 y3))
  | 0 => ⟨fun _ _ _ r h => by simp [wire_Takes.j0] at h, fun _ _ _ _ r h => by simp [wire_Takes.l0] at h⟩
  | k + 1 => by
    obtain ⟨ih0, ih1⟩ := wire_Takes.mono_l k
    refine ⟨?_, ?_⟩
    · intro y0 y1 y2
      unfold wire_Takes.j0
      repeat' first
      | (with_reducible exact ih0 _ _ _)
      | (with_reducible exact ih1 _ _ _ _)
      | (with_reducible exact wire_take.mono _ _)
      | (with_reducible exact LeO.refl _)
      | (with_reducible exact LeO.none _)
      | (with_reducible refine LeO.ite ?_ ?_)
      | (with_reducible refine LeO.bind ?_ (fun _ => ?_))
      | exact ih0 _ _ _
      | exact ih1 _ _ _ _
      | exact wire_take.mono _ _
      | exact LeO.none _
      | refine LeO.ite ?_ ?_
      | refine LeO.bind ?_ (fun _ => ?_)
    · intro y0 y1 y2 y3
      unfold wire_Takes.l0
      repeat' first
      | (with_reducible exact ih0 _ _ _)
      | (with_reducible exact ih1 _ _ _ _)
      | (with_reducible exact wire_take.mono _ _)
      | (with_reducible exact LeO.refl _)
      | (with_reducible exact LeO.none _)
      | (with_reducible refine LeO.ite ?_ ?_)
      | (with_reducible refine LeO.bind ?_ (fun _ => ?_))
      | exact ih0 _ _ _
      | exact ih1 _ _ _ _
      | exact wire_take.mono _ _
      | exact LeO.none _
      | refine LeO.ite ?_ ?_
      | refine LeO.bind ?_ (fun _ => ?_)
theorem wire_Takes.mono : ∀ a0 a1 k, LeO (wire_Takes.f k a0 a1) (wire_Takes.f (k + 1) a0 a1) := by
  intro a0 a1 k
  obtain ⟨ih0, ih1⟩ := wire_Takes.mono_l k
  unfold wire_Takes.f
  repeat' first
      | (with_reducible exact ih0 _ _ _)
      | (with_reducible exact ih1 _ _ _ _)
      | (with_reducible exact wire_take.mono _ _)
      | (with_reducible exact LeO.refl _)
      | (with_reducible exact LeO.none _)
      | (with_reducible refine LeO.ite ?_ ?_)
      | (with_reducible refine LeO.bind ?_ (fun _ => ?_))
      | exact ih0 _ _ _
      | exact ih1 _ _ _ _
      | exact wire_take.mono _ _
      | exact LeO.none _
      | refine LeO.ite ?_ ?_
      | refine LeO.bind ?_ (fun _ => ?_)
set_option maxHeartbeats 8000000 in
set_option maxRecDepth 100000 in
theorem wire_Takes.calls (k : Nat) (P0_ : Nat → Prop) (A0 : Option Addr) (c0 : Nat) (l0 : List Int) (a1 : Int) (r1 : List Int) (r2 : List Int) (r3 : Option Int) (w : World) (hs0 : Kd.V (Kd.int .u8) 5 w w.heap.size (fun k_ => P0_ k_) (.slice A0 l0.length c0) l0) (h : wire_Takes.f k l0 a1 = some (r1, r2, r3)) :
    Calls Try.prog 33 #[.slice A0 l0.length c0, .int .i64 a1] w fun e w' => ∃ v0_ v1_ : Value, e = .returned (.tuple #[v0_, v1_, errW r3]) ∧ Kd.R (Kd.int .i64) 3 w' w.heap.size (fun k_ => (w.heap.size ≤ k_)) v0_ r1 ∧ Kd.R (Kd.int .u8) 5 w' w.heap.size (fun k_ => (w.heap.size ≤ k_)) v1_ r2 ∧ Below w.heap.size w w' := by
  have hu40 := Try.underlying40
  have hu49 := Try.underlying49
  have HO0 := Aside0.mk (show Kd.V (Kd.int .u8) 5 w w.heap.size (fun k_ => (P0_ k_ ∨ w.heap.size ≤ k_)) (.slice A0 l0.length c0) l0 from Kd.V_mono hs0 (fun k_ hk => .inl hk))
  have HB := Aside0.mk (Below.refl w.heap.size w)
  have H : (if a1 < 0 then (wire_Takes.j0 k l0 a1 true) else (wire_Takes.j0 k l0 a1 (decide (a1 > 4096)))) = some (r1, r2, r3) := h
  clear h
  have HC3 := Aside0.mk H
  clear H
  go_enter Try.func33, Try.ntmps33
  go_upto_region 1 with (fail)
  go_cut [15] (fun v15 wc => ∃ (kq : Nat) (x15_2 : Bool), v15 = .bool x15_2 ∧ Aside0 (wire_Takes.j0 kq l0 a1 x15_2 = some (r1, r2, r3)) ∧ Aside0 (kq ≤ k) ∧ Aside0 (Kd.V (Kd.int .u8) 5 wc w.heap.size (fun k_ => (P0_ k_ ∨ w.heap.size ≤ k_)) (.slice A0 l0.length c0) l0) ∧ Aside0 (Below w.heap.size w wc))
  case first =>
    have H := HC3.out
    clear HC3
    by_cases c4 : a1 < 0
    · rw [if_pos c4] at H
      have c4b0 : decide (a1 < 0) = true := decide_eq_true c4
      clear c4
      (first | rw [c4b0] | (simp only [i64_w, i32_w]; rw [c4b0]) | skip)
      have H' := Aside0.mk H
      clear H
      go_wp2
      go_meet
      case rel => exact ⟨_, (true), (by first | rfl | (simp; done) | (simp [*]; done)), H', ⟨by first | omega | exact Nat.le_refl _⟩, ⟨by (with_reducible repeat (first | apply Kd.V_alloc | apply Kd.V_drewN | apply Kd.V_drew)); exact HO0.out⟩, ⟨by repeat (first | (with_reducible first | exact HB.out | apply below_alloc | apply pw_below_drewN | apply below_drew1) | exact HB.out)⟩⟩
    · rw [if_neg c4] at H
      have c4b0 : decide (a1 < 0) = false := decide_eq_false c4
      clear c4
      (first | rw [c4b0] | (simp only [i64_w, i32_w]; rw [c4b0]) | skip)
      have H' := Aside0.mk H
      clear H
      go_wp2
      go_meet
      case rel => exact ⟨_, (decide (a1 > 4096)), (by first | rfl | (simp; done) | (simp [*]; done)), H', ⟨by first | omega | exact Nat.le_refl _⟩, ⟨by (with_reducible repeat (first | apply Kd.V_alloc | apply Kd.V_drewN | apply Kd.V_drew)); exact HO0.out⟩, ⟨by repeat (first | (with_reducible first | exact HB.out | apply below_alloc | apply pw_below_drewN | apply below_drew1) | exact HB.out)⟩⟩
  case rest =>
    clear HC3
    try clear p2
    try clear c3
    try clear c4
    try clear c4b0
    obtain ⟨kq, x15_2, rfl, HA, HJ2, HO_0, HB⟩ := hcut
    cases kq with
    | zero => exact absurd HA.out (by simp [wire_Takes.j0])
    | succ kj2 =>
      have H := HA.out
      clear HA
      simp only [wire_Takes.j0] at H
      by_cases c5 : x15_2 = true
      · subst c5
        have H1 : (some (([] : List Int), ([] : List Int), some 1)) = some (r1, r2, r3) := by rw [if_pos rfl] at H; exact H
        clear H
        have H := H1
        clear H1
        simp only [Option.some.injEq, Prod.mk.injEq] at H
        obtain ⟨rfl, rfl, rfl⟩ := H
        go_wp2
        go_ret3
        exact ⟨_, _, by first | rfl | (simp [errW_none, errW_some] <;> rfl) | (simp [*, errW_none, errW_some] <;> rfl), by first | exact Kd.R_nil _ _ _ _ _ | exact Kd.N_nil _ _ _ _ _ | exact Kd.V_nil _ _ _ _ _ | exact Kd.Q_nil _ _ _ _ _ | exact Kd.S_nil _ _ _ _ _, by first | exact Kd.R_nil _ _ _ _ _ | exact Kd.N_nil _ _ _ _ _ | exact Kd.V_nil _ _ _ _ _ | exact Kd.Q_nil _ _ _ _ _ | exact Kd.S_nil _ _ _ _ _, by repeat (first | (with_reducible first | exact HB.out | apply below_alloc | apply pw_below_drewN | apply below_drew1) | exact HB.out)⟩
      · replace c5 := Bool.eq_false_iff.mpr c5
        subst c5
        have H1 : (wire_Takes.l0 kj2 l0 ([] : List Int) a1 0) = some (r1, r2, r3) := by rw [if_neg (show ¬ (false = true) by decide)] at H; exact H
        clear H
        have H := H1
        clear H1
        have H' := Aside0.mk H
        clear H
        go_wp2
        go_loopg [0, 7, 18] kj2 (fun kq v0 v7 v18 w' => ∃ (x0_2 : List Int) (x7_2 : List Int) (x18_2 : Int), v18 = .int .i64 x18_2 ∧ Aside0 (wire_Takes.l0 kq x0_2 x7_2 a1 x18_2 = some (r1, r2, r3)) ∧ Aside0 (kq ≤ kj2) ∧ Aside0 (Kd.V (Kd.int .u8) 5 w' w.heap.size (fun k_ => (P0_ k_ ∨ w.heap.size ≤ k_) ∧ some k_ ≠ (v7 : Value).ownBlock) v0 x0_2) ∧ Aside0 (Kd.R (Kd.int .i64) 3 w' w.heap.size (fun k_ => (w.heap.size ≤ k_)) v7 x7_2) ∧ Aside0 (Below w.heap.size w w'))
        case atStart => exact ⟨(l0), (([] : List Int)), (0), (by first | rfl | (simp; done) | (simp [*]; done)), H', ⟨Nat.le_refl _⟩, ⟨by (with_reducible repeat (first | apply Kd.V_alloc | apply Kd.V_drewN | apply Kd.V_drew)); exact Kd.V_mono HO_0.out (fun _ hk => ⟨hk, (by simp [Value.ownBlock])⟩)⟩, ⟨by first | exact Kd.R_nil _ _ _ _ _ | exact Kd.N_nil _ _ _ _ _ | exact Kd.V_nil _ _ _ _ _ | exact Kd.Q_nil _ _ _ _ _ | exact Kd.S_nil _ _ _ _ _⟩, ⟨by repeat (first | (with_reducible first | exact HB.out | apply below_alloc | apply pw_below_drewN | apply below_drew1) | exact HB.out)⟩⟩
        case round =>
          clear H'
          try clear p2
          try clear c3
          try clear c4
          try clear c4b0
          try clear c5
          try clear p2
          obtain ⟨x0_2, x7_2, x18_2, rfl, HA, HK2, HO_0, HO_7, HB⟩ := hrel
          cases gk with
          | zero => exact absurd HA.out (by simp [wire_Takes.l0])
          | succ k2 =>
            have H := HA.out
            clear HA
            simp only [wire_Takes.l0] at H
            by_cases c6 : x18_2 < a1
            · rw [if_pos c6] at H
              have c6b0 : decide (x18_2 < a1) = true := decide_eq_true c6
              clear c6
              replace H := Option.bind_eq_some_iff.mp H
              obtain ⟨⟨t322, t323⟩, A70, H⟩ := H
              replace H : (if t323 = 0 then (some (([] : List Int), ([] : List Int), some 4)) else (if x7_2.length < 17592186044416 then (if 0 ≤ t323 then (if t323 ≤ (x0_2.length : Int) then (wire_Takes.l0 k2 (x0_2.drop (t323 : Int).toNat) (x7_2 ++ [t322]) a1 (wrap64 (x18_2 + 1))) else (none)) else (none)) else (none))) = some (r1, r2, r3) := H
              have A7 := Aside0.mk A70
              clear A70
              by_cases c8 : t323 = 0
              · rw [if_pos c8] at H
                have c8b0 : (t323 == 0) = true := beq_iff_eq.mpr c8
                have c8b1 : (t323 != 0) = false := bne_eq_false_iff_eq.mpr c8
                clear c8
                simp only [Option.some.injEq, Prod.mk.injEq] at H
                obtain ⟨rfl, rfl, rfl⟩ := H
                obtain ⟨Ao9, co9, eo9⟩ := Kd.V_slice HO_0.out
                subst eo9
                go_wp2_with (first | ((with_reducible refine gate_callee (f := 53) rfl ?_); refine goesL_ (some 22) rfl rfl Try.func53 (by kernel_rfl) rfl #[.slice Ao9 x0_2.length co9] rfl (by (try simp only [List.map_toArray, List.map_cons, List.map_nil]); first | done | rfl | (simp only [List.length_drop, List.length_take]; rfl)) ?_; (with_reducible refine (wire_take.calls k2 _ _ x0_2 t322 t323 _ ?side1 ?side2 A7.out).mono ?_); (case side1 => repeat (first | exact (Kd.V_reads' HO_0.out).2.2 | (with_reducible refine Kd.C_alloc ?_ _) | (with_reducible refine Kd.C_drewN ?_ _) | (with_reducible refine Kd.C_drew ?_))); (case side2 => exact (Kd.V_reads' HO_0.out).2.1); rintro e w10 ⟨rfl, hb⟩; refine ⟨_, rfl, ?_⟩; have n0_ := Aside0.mk (Kd.V_below (by (with_reducible repeat (first | apply Kd.V_alloc | apply Kd.V_drewN | apply Kd.V_drew)); exact HO_0.out) hb); have n1_ := Aside0.mk (Kd.R_below (by (with_reducible repeat (first | apply Kd.R_alloc | apply Kd.R_drewN | apply Kd.R_drew)); exact HO_7.out) hb); have n2_ := Aside0.mk (below_step (by repeat (first | (with_reducible first | exact HB.out | apply below_alloc | apply pw_below_drewN | apply below_drew1) | exact HB.out)) hb); clear HO_0; clear HO_7; clear HB; have HO_0 := n0_; have HO_7 := n1_; have HB := n2_; clear n0_ n1_ n2_; (try clear hb); (try clear hb2); (try clear hk); (try clear hi)))
                go_ret3
                exact ⟨_, _, by first | rfl | (simp [errW_none, errW_some] <;> rfl) | (simp [*, errW_none, errW_some] <;> rfl), by first | exact Kd.R_nil _ _ _ _ _ | exact Kd.N_nil _ _ _ _ _ | exact Kd.V_nil _ _ _ _ _ | exact Kd.Q_nil _ _ _ _ _ | exact Kd.S_nil _ _ _ _ _, by first | exact Kd.R_nil _ _ _ _ _ | exact Kd.N_nil _ _ _ _ _ | exact Kd.V_nil _ _ _ _ _ | exact Kd.Q_nil _ _ _ _ _ | exact Kd.S_nil _ _ _ _ _, by repeat (first | (with_reducible first | exact HB.out | apply below_alloc | apply pw_below_drewN | apply below_drew1) | exact HB.out)⟩
              · rw [if_neg c8] at H
                have c8b0 : (t323 == 0) = false := beq_eq_false_iff_ne.mpr c8
                have c8b1 : (t323 != 0) = true := bne_iff_ne.mpr c8
                by_cases c11 : x7_2.length < 17592186044416
                · rw [if_pos c11] at H
                  have LMc11 := Aside0.mk c11
                  clear c11
                  obtain ⟨y324, hy324⟩ : ∃ y_ : List Int, y_ = (x7_2 ++ [t322]) := ⟨_, rfl⟩
                  replace H : (if 0 ≤ t323 then (if t323 ≤ (x0_2.length : Int) then (wire_Takes.l0 k2 (x0_2.drop (t323 : Int).toNat) y324 a1 (wrap64 (x18_2 + 1))) else (none)) else (none)) = some (r1, r2, r3) := by first | (rw [hy324]; with_reducible exact H) | (have H2_ := (Option.bind_some _ _).symm.trans H; rw [hy324]; with_reducible exact H2_) | (have H2_ := (Option.bind_some _ _).symm.trans H; with_reducible exact H2_) | with_reducible exact H | (rw [hy324]; exact H) | exact H
                  have Ny324 := Aside0.mk hy324
                  clear hy324
                  by_cases c12 : 0 ≤ t323
                  · rw [if_pos c12] at H
                    have c12b0 := eq_true c12
                    have c12b1 : decide (0 ≤ t323) = true := decide_eq_true c12
                    clear c12
                    by_cases c13 : t323 ≤ (x0_2.length : Int)
                    · rw [if_pos c13] at H
                      have c13b0 := eq_true c13
                      have c13b1 : decide (t323 ≤ (x0_2.length : Int)) = true := decide_eq_true c13
                      clear c13
                      obtain ⟨y327, hy327⟩ : ∃ y_ : List Int, y_ = (x0_2.drop (t323 : Int).toNat) := ⟨_, rfl⟩
                      replace H : (wire_Takes.l0 k2 y327 y324 a1 (wrap64 (x18_2 + 1))) = some (r1, r2, r3) := by first | (rw [hy327]; with_reducible exact H) | (have H2_ := (Option.bind_some _ _).symm.trans H; rw [hy327]; with_reducible exact H2_) | (have H2_ := (Option.bind_some _ _).symm.trans H; with_reducible exact H2_) | with_reducible exact H | (rw [hy327]; exact H) | exact H
                      have Ny327 := Aside0.mk hy327
                      clear hy327
                      have H' := Aside0.mk H
                      clear H
                      obtain ⟨Ao14, co14, eo14⟩ := Kd.V_slice HO_0.out
                      subst eo14
                      go_wp2_with (first | ((with_reducible refine gate_callee (f := 53) rfl ?_); refine goesL_ (some 22) rfl rfl Try.func53 (by kernel_rfl) rfl #[.slice Ao14 x0_2.length co14] rfl (by (try simp only [List.map_toArray, List.map_cons, List.map_nil]); first | done | rfl | (simp only [List.length_drop, List.length_take]; rfl)) ?_; (with_reducible refine (wire_take.calls k2 _ _ x0_2 t322 t323 _ ?side1 ?side2 A7.out).mono ?_); (case side1 => repeat (first | exact (Kd.V_reads' HO_0.out).2.2 | (with_reducible refine Kd.C_alloc ?_ _) | (with_reducible refine Kd.C_drewN ?_ _) | (with_reducible refine Kd.C_drew ?_))); (case side2 => exact (Kd.V_reads' HO_0.out).2.1); rintro e w15 ⟨rfl, hb⟩; refine ⟨_, rfl, ?_⟩; have n0_ := Aside0.mk (Kd.V_below (by (with_reducible repeat (first | apply Kd.V_alloc | apply Kd.V_drewN | apply Kd.V_drew)); exact HO_0.out) hb); have n1_ := Aside0.mk (Kd.R_below (by (with_reducible repeat (first | apply Kd.R_alloc | apply Kd.R_drewN | apply Kd.R_drew)); exact HO_7.out) hb); have n2_ := Aside0.mk (below_step (by repeat (first | (with_reducible first | exact HB.out | apply below_alloc | apply pw_below_drewN | apply below_drew1) | exact HB.out)) hb); clear HO_0; clear HO_7; clear HB; have HO_0 := n0_; have HO_7 := n1_; have HB := n2_; clear n0_ n1_ n2_; (try clear hb); (try clear hb2); (try clear hk); (try clear hi)) | ((with_reducible refine gate_builtin (b := .append) (xs := #[.tmp 28, .tmp 30]) rfl ?_); at_builtin; refine Kd.R_append (Kd.int .i64) (w0 := w) w.heap.size rfl (.tmp 28) (.tmp 30) 27 3 (.int .i64 0) 8 rfl Try.underlying27 info3 rfl (by decide) (by omega) u7 x7_2 t322 [.int .i64 t322] (fun k_ => (w.heap.size ≤ k_)) (fun _ => False) rfl rfl ?aP (fun _ hk => hk.elim) ?aF ?aO ?aB ?aS ?aL ?_; (case aP => exact rfl); (case aB => exact (by repeat (first | (with_reducible first | exact HB.out | apply below_alloc | apply pw_below_drewN | apply below_drew1) | exact HB.out))); (case aF => exact (fun k_ hk => (Nat.le_trans (below_size (by repeat (first | (with_reducible first | exact HB.out | apply below_alloc | apply pw_below_drewN | apply below_drew1) | exact HB.out))) hk))); (case aO => exact (by (with_reducible repeat (first | apply Kd.R_alloc | apply Kd.R_drewN | apply Kd.R_drew)); exact HO_7.out)); (case aS => exact (below_size (by repeat (first | (with_reducible first | exact HB.out | apply below_alloc | apply pw_below_drewN | apply below_drew1) | exact HB.out)))); (case aL => have := LMc11.out; omega); intro v325 w16 ho hb hg hat; rw [← Ny324.out] at ho; have n0_ := Aside0.mk (Kd.V_afterv (ok := (fun k_ => (P0_ k_ ∨ w.heap.size ≤ k_))) (by (with_reducible repeat (first | apply Kd.V_alloc | apply Kd.V_drewN | apply Kd.V_drew)); exact HO_0.out) hg hat); have n1_ := Aside0.mk (hb); have n2_ := Aside0.mk (ho); clear HO_0; clear HB; clear HO_7; have HO_0 := n0_; have HB := n1_; have HO326 := n2_; clear n0_ n1_ n2_; clear ho hb hg hat; have q17 : (t323 : Int) ≤ ((x0_2.length : Int) : Int) := of_decide_eq_true (by first | (with_reducible assumption) | assumption); obtain ⟨i017, hi017, _, hsz17, _⟩ := info_parts info5; have hroom17 : x0_2.length ≤ co14 := (Kd.V_reads' HO_0.out).2.1; have hC17 : Kd.F (Kd.int .u8) _ _ Ao14 x0_2.length x0_2 := (Kd.V_at (base := w.heap.size) HO_0.out).2.2; have q017 : (0 : Int) ≤ (t323 : Int) := of_decide_eq_true (by first | (with_reducible assumption) | assumption); have hcut17 := cut_from (P := Try.prog) 22 5 .i64 Try.underlying22 hi017 1 hsz17 Ao14 x0_2.length co14 t323 q017 q17; have hr17 := Kd.F_cut (m := (t323 : Int).toNat) (c := co14) hC17 (by omega) hroom17; obtain ⟨A17, hA17⟩ : ∃ A1, A1 = (if co14 = (t323 : Int).toNat then Ao14 else (Ao14 : Option Addr).map (·.add ((t323 : Int).toNat * 1))) := ⟨_, rfl⟩; obtain ⟨c17, hc17⟩ : ∃ c1, c1 = co14 - (t323 : Int).toNat := ⟨_, rfl⟩; have hy17 : y327.length = x0_2.length - (t323 : Int).toNat := (by rw [Ny327.out, List.length_drop] <;> omega); rw [show (x0_2).drop (t323 : Int).toNat = y327 from Ny327.out.symm] at hr17; replace hr17 : Kd.F (Kd.int .u8) _ _ A17 y327.length y327 := (by rw [hA17]; exact hr17); rw [← hy17, ← hA17, ← hc17] at hcut17; have HO331 := Aside0.mk (show Kd.V (Kd.int .u8) 5 _ w.heap.size _ (.slice A17 y327.length c17) y327 from Kd.V_mk (by rw [hy17, hc17]; exact Nat.sub_le_sub_right hroom17 _) hr17); have HC331 := Aside0.mk (show y327.length ≤ c17 from by rw [hy17, hc17]; exact Nat.sub_le_sub_right hroom17 _); clear hr17 hC17 hroom17 hi017 hsz17 hc17; have KY17 := Aside0.mk hy17; have KA17 := Aside0.mk hA17; clear hy17 hA17; replace q17 := eq_true q17))
                      go_roundg k2
                      case measure => have := HJ2.out; have := HK2.out; omega
                      case rel => exact ⟨(y327), (y324), (wrap64 (x18_2 + 1)), (by first | rfl | (simp; done) | (simp [*]; done)), H', ⟨by have := HJ2.out; have := HK2.out; omega⟩, ⟨by (with_reducible repeat (first | apply Kd.V_alloc | apply Kd.V_drewN | apply Kd.V_drew)); exact HO331.out⟩, ⟨by (with_reducible repeat (first | apply Kd.R_alloc | apply Kd.R_drewN | apply Kd.R_drew)); exact HO326.out⟩, ⟨by repeat (first | (with_reducible first | exact HB.out | apply below_alloc | apply pw_below_drewN | apply below_drew1) | exact HB.out)⟩⟩
                    · rw [if_neg c13] at H
                      exact absurd H (by simp)
                  · rw [if_neg c12] at H
                    exact absurd H (by simp)
                · rw [if_neg c11] at H
                  exact absurd H (by simp)
            · rw [if_neg c6] at H
              have c6b0 : decide (x18_2 < a1) = false := decide_eq_false c6
              clear c6
              replace H := Option.bind_eq_some_iff.mp H
              obtain ⟨t332, A180, H⟩ := H
              replace H : (some (x7_2, t332, none)) = some (r1, r2, r3) := H
              have A18 := Aside0.mk A180
              clear A180
              simp only [Option.some.injEq, Prod.mk.injEq] at H
              obtain ⟨rfl, rfl, rfl⟩ := H
              obtain ⟨Ao19, co19, eo19⟩ := Kd.V_slice HO_0.out
              subst eo19
              go_wp2_with (first | ((with_reducible refine gate_callee (f := 50) rfl ?_); refine goesL_ (some 38) rfl rfl Try.func50 (by kernel_rfl) rfl #[.slice Ao19 x0_2.length co19] rfl (by (try simp only [List.map_toArray, List.map_cons, List.map_nil]); first | done | rfl | (simp only [List.length_drop, List.length_take]; rfl)) ?_; (with_reducible refine (slices_Clone_byte_byte.calls _ _ x0_2 t332 _ ?side1 ?side2 A18.out).mono ?_); (case side1 => repeat (first | exact (Kd.V_reads' HO_0.out).2.2 | (with_reducible refine Kd.C_alloc ?_ _) | (with_reducible refine Kd.C_drewN ?_ _) | (with_reducible refine Kd.C_drew ?_))); (case side2 => exact (Kd.V_reads' HO_0.out).2.1); rintro e w20 ⟨v333, rfl, ho0, hb⟩; refine ⟨_, rfl, ?_⟩; have n0_ := Aside0.mk (Kd.V_elder' (by (with_reducible repeat (first | apply Kd.V_alloc | apply Kd.V_drewN | apply Kd.V_drew)); exact HO_0.out) (Kd.R_base ho0) hb); have n1_ := Aside0.mk (Kd.R_below (by (with_reducible repeat (first | apply Kd.R_alloc | apply Kd.R_drewN | apply Kd.R_drew)); exact HO_7.out) hb); have n2_ := Aside0.mk (Kd.R_lower (Kd.R_newM (M := fun k_ => (w.heap.size ≤ k_)) ho0 (below_size (by repeat (first | (with_reducible first | exact HB.out | apply below_alloc | apply pw_below_drewN | apply below_drew1) | exact HB.out))) (fun k_ h_ => h_)) (below_size (by repeat (first | (with_reducible first | exact HB.out | apply below_alloc | apply pw_below_drewN | apply below_drew1) | exact HB.out)))); have n3_ := Aside0.mk (below_step (by repeat (first | (with_reducible first | exact HB.out | apply below_alloc | apply pw_below_drewN | apply below_drew1) | exact HB.out)) hb); clear HO_0; clear HO_7; clear HB; have HO_0 := n0_; have HO_7 := n1_; have HO334 := n2_; have HB := n3_; clear n0_ n1_ n2_ n3_; (try clear hb); (try clear hb2); (try clear hk); (try clear hi); (try clear ho0)))
              go_ret3
              exact ⟨_, _, by first | rfl | (simp [errW_none, errW_some] <;> rfl) | (simp [*, errW_none, errW_some] <;> rfl), by (with_reducible repeat (first | apply Kd.R_alloc | apply Kd.R_drewN | apply Kd.R_drew)); exact HO_7.out, by (with_reducible repeat (first | apply Kd.R_alloc | apply Kd.R_drewN | apply Kd.R_drew)); exact Kd.R_mono HO334.out (fun _ hk => hk.1), by repeat (first | (with_reducible first | exact HB.out | apply below_alloc | apply pw_below_drewN | apply below_drew1) | exact HB.out)⟩

end Go.Proofs.Ytbphmpncajfaiaa.Py
-- PRINTED by print.py (a twelfth state) out of the translation. Not trusted: Lean checks it.
namespace Go.Proofs.Ytbphmpncajfaiaa.Py
open Go.RowKit Go.Proofs.YtbphmpncajfaiaaW.PrintWords Go.Proofs.YtbphmpncajfaiaaW.PrintLast Go.Proofs.YtbphmpncajfaiaaW.PrintMore
attribute [local go_sem] max2_int min2_int max_two min_two max_three min_three max_four min_four   -- for this text's walks alone
set_option linter.unusedVariables false
set_option linter.unusedSimpArgs false

/-! ### wire_TakeRow: function 34 -/
def wire_TakeRow.j0 : Nat → List Int → Int → Int → Bool → Option (List Int × List Int × Option Int)
  | 0, _, _, _, _ => none
  | k + 1, x0, x5, x6, x25 => if x25 = true then (some (([] : List Int), ([] : List Int), some 4)) else (if 0 ≤ x6 then (if x6 ≤ (wrap64 (x6 + x5)) then (if (wrap64 (x6 + x5)) ≤ (x0.length : Int) then ((slices_Clone_byte_byte.f ((x0.take ((wrap64 (x6 + x5)) : Int).toNat).drop (x6 : Int).toNat)).bind fun t338 => (if 0 ≤ (wrap64 (x6 + x5)) then ((slices_Clone_byte_byte.f (x0.drop ((wrap64 (x6 + x5)) : Int).toNat)).bind fun t342 => (some (t338, t342, none))) else (none))) else (none)) else (none)) else (none))
def wire_TakeRow.f (k : Nat) (l0 : List Int) : Option (List Int × List Int × Option Int) := (wire_take.f k l0).bind fun bt335 => (if bt335.2 = 0 then (wire_TakeRow.j0 k l0 bt335.1 bt335.2 true) else (if bt335.1 < 0 then (wire_TakeRow.j0 k l0 bt335.1 bt335.2 true) else (wire_TakeRow.j0 k l0 bt335.1 bt335.2 (decide (bt335.1 > (wrap64 ((l0.length : Int) - bt335.2)))))))
theorem wire_TakeRow.mono_l : ∀ k, (∀ y0 y1 y2 y3, LeO (wire_TakeRow.j0 k y0 y1 y2 y3) (wire_TakeRow.j0 (k + 1) y0 y1 y2 y3))
  | 0 => fun _ _ _ _ r h => by simp [wire_TakeRow.j0] at h
  | k + 1 => by
    have ih0 := wire_TakeRow.mono_l k
    · intro y0 y1 y2 y3
      unfold wire_TakeRow.j0
      repeat' first
      | (with_reducible exact ih0 _ _ _ _)
      | (with_reducible exact wire_take.mono _ _)
      | (with_reducible exact LeO.refl _)
      | (with_reducible exact LeO.none _)
      | (with_reducible refine LeO.ite ?_ ?_)
      | (with_reducible refine LeO.bind ?_ (fun _ => ?_))
      | exact ih0 _ _ _ _
      | exact wire_take.mono _ _
      | exact LeO.none _
      | refine LeO.ite ?_ ?_
      | refine LeO.bind ?_ (fun _ => ?_)
theorem wire_TakeRow.mono : ∀ a0 k, LeO (wire_TakeRow.f k a0) (wire_TakeRow.f (k + 1) a0) := by
  intro a0 k
  have ih0 := wire_TakeRow.mono_l k
  unfold wire_TakeRow.f
  repeat' first
      | (with_reducible exact ih0 _ _ _ _)
      | (with_reducible exact wire_take.mono _ _)
      | (with_reducible exact LeO.refl _)
      | (with_reducible exact LeO.none _)
      | (with_reducible refine LeO.ite ?_ ?_)
      | (with_reducible refine LeO.bind ?_ (fun _ => ?_))
      | exact ih0 _ _ _ _
      | exact wire_take.mono _ _
      | exact LeO.none _
      | refine LeO.ite ?_ ?_
      | refine LeO.bind ?_ (fun _ => ?_)
def wire_TakeRow.T4 : Bool × List (List Nat × List Nat) := (true, [([], []), ([], []), ([], []), ([], []), ([2, 3], [2, 3]), ([0, 1, 4], [0, 1, 4]), ([5], [5]), ([], []), ([], []), ([], []), ([8, 9], [8, 9]), ([7, 10], [7, 10]), ([11, 6], [11]), ([6, 12, 0, 1, 2, 3, 4, 5, 6], [6]), ([12, 13, 0, 1, 2, 3, 4, 5, 6, 7, 8, 9, 10, 11, 12, 13], [12]), ([14, 0, 1, 2, 3, 4, 5, 6, 7, 8, 9, 10, 11, 12, 13, 14], [])])
def wire_TakeRow.B4 : List Nat := [0, 0, 0, 0, 12, 31, 63, 0, 0, 0, 768, 1920, 4095, 8191, 16383, 32767]
theorem wire_TakeRow.tab4 : rtab .any (opsOf Try.f34 4) = wire_TakeRow.T4 := by kernel_rfl
theorem wire_TakeRow.bits4 : waitsOk wire_TakeRow.T4.2 wire_TakeRow.B4 = true := by kernel_rfl
set_option maxHeartbeats 8000000 in
set_option maxRecDepth 100000 in
theorem wire_TakeRow.calls (k : Nat) (A0 : Option Addr) (c0 : Nat) (l0 : List Int) (r1 : List Int) (r2 : List Int) (r3 : Option Int) (w : World) (hr0 : Kd.C (Kd.int .u8) w A0 l0.length l0) (hc0 : l0.length ≤ c0) (h : wire_TakeRow.f k l0 = some (r1, r2, r3)) :
    Calls Try.prog 34 #[.slice A0 l0.length c0] w fun e w' => ∃ v0_ v1_ : Value, e = .returned (.tuple #[v0_, v1_, errW r3]) ∧ Kd.R (Kd.int .u8) 5 w' w.heap.size (fun k_ => some k_ ≠ (v1_ : Value).ownBlock) v0_ r1 ∧ Kd.R (Kd.int .u8) 5 w' w.heap.size (fun k_ => some k_ ≠ (v0_ : Value).ownBlock) v1_ r2 ∧ Below w.heap.size w w' := by
  have hu40 := Try.underlying40
  have hu49 := Try.underlying49
  have HR0 := Aside0.mk hr0
  have HC0 := Aside0.mk hc0
  clear hr0 hc0
  have HB := Aside0.mk (Below.refl w.heap.size w)
  have H : ((wire_take.f k l0).bind fun bt335 => (if bt335.2 = 0 then (wire_TakeRow.j0 k l0 bt335.1 bt335.2 true) else (if bt335.1 < 0 then (wire_TakeRow.j0 k l0 bt335.1 bt335.2 true) else (wire_TakeRow.j0 k l0 bt335.1 bt335.2 (decide (bt335.1 > (wrap64 ((l0.length : Int) - bt335.2)))))))) = some (r1, r2, r3) := h
  clear h
  replace H := Option.bind_eq_some_iff.mp H
  obtain ⟨⟨t335, t336⟩, A20, H⟩ := H
  replace H : (if t336 = 0 then (wire_TakeRow.j0 k l0 t335 t336 true) else (if t335 < 0 then (wire_TakeRow.j0 k l0 t335 t336 true) else (wire_TakeRow.j0 k l0 t335 t336 (decide (t335 > (wrap64 ((l0.length : Int) - t336))))))) = some (r1, r2, r3) := H
  have A2 := Aside0.mk A20
  clear A20
  have HC3 := Aside0.mk H
  clear H
  go_enter Try.func34, Try.ntmps34
  go_upto_region 2 with (first | ((with_reducible refine gate_callee (f := 53) rfl ?_); refine goesL_ (some 9) rfl rfl Try.func53 (by kernel_rfl) rfl #[.slice A0 l0.length c0] rfl (by (try simp only [List.map_toArray, List.map_cons, List.map_nil]); first | done | rfl | (simp only [List.length_drop, List.length_take]; rfl)) ?_; (with_reducible refine (wire_take.calls k _ _ l0 t335 t336 _ ?side1 ?side2 A2.out).mono ?_); (case side1 => repeat (first | exact HR0.out | (with_reducible refine Kd.C_alloc ?_ _) | (with_reducible refine Kd.C_drewN ?_ _) | (with_reducible refine Kd.C_drew ?_))); (case side2 => exact HC0.out); rintro e w4 ⟨rfl, hb⟩; refine ⟨_, rfl, ?_⟩; have n0_ := Aside0.mk (below_step (by repeat (first | (with_reducible first | exact HB.out | apply below_alloc | apply pw_below_drewN | apply below_drew1) | exact HB.out)) hb); clear HB; have HB := n0_; clear n0_; (try clear hb); (try clear hb2); (try clear hk); (try clear hi)))
  (try simp only [Act.put, List.setIfInBounds_toArray, List.set_cons_zero, List.set_cons_succ])
  go_cut [25] (fun v25 wc => ∃ (kq : Nat) (x25_2 : Bool), v25 = .bool x25_2 ∧ Aside0 (wire_TakeRow.j0 kq l0 t335 t336 x25_2 = some (r1, r2, r3)) ∧ Aside0 (kq ≤ k) ∧ Aside0 (Below w.heap.size w wc))
  case first =>
    have H := HC3.out
    clear HC3
    by_cases c5 : t336 = 0
    · rw [if_pos c5] at H
      have c5b0 : (t336 == 0) = true := beq_iff_eq.mpr c5
      have c5b1 : (t336 != 0) = false := bne_eq_false_iff_eq.mpr c5
      clear c5
      (first | rw [c5b0] | (simp only [i64_w, i32_w]; rw [c5b0]) | skip)
      have H' := Aside0.mk H
      clear H
      go_wp2
      go_meet
      case rel => exact ⟨_, (true), (by first | rfl | (simp; done) | (simp [*]; done)), H', ⟨by first | omega | exact Nat.le_refl _⟩, ⟨by repeat (first | (with_reducible first | exact HB.out | apply below_alloc | apply pw_below_drewN | apply below_drew1) | exact HB.out)⟩⟩
    · rw [if_neg c5] at H
      have c5b0 : (t336 == 0) = false := beq_eq_false_iff_ne.mpr c5
      have c5b1 : (t336 != 0) = true := bne_iff_ne.mpr c5
      (first | rw [c5b0] | (simp only [i64_w, i32_w]; rw [c5b0]) | skip)
      by_cases c6 : t335 < 0
      · rw [if_pos c6] at H
        have c6b0 : decide (t335 < 0) = true := decide_eq_true c6
        clear c6
        have H' := Aside0.mk H
        clear H
        go_wp2
        go_meet
        case rel => exact ⟨_, (true), (by first | rfl | (simp; done) | (simp [*]; done)), H', ⟨by first | omega | exact Nat.le_refl _⟩, ⟨by repeat (first | (with_reducible first | exact HB.out | apply below_alloc | apply pw_below_drewN | apply below_drew1) | exact HB.out)⟩⟩
      · rw [if_neg c6] at H
        have c6b0 : decide (t335 < 0) = false := decide_eq_false c6
        clear c6
        have H' := Aside0.mk H
        clear H
        go_wp2
        go_meet
        case rel => exact ⟨_, (decide (t335 > (wrap64 ((l0.length : Int) - t336)))), (by first | rfl | (simp; done) | (simp [*]; done)), H', ⟨by first | omega | exact Nat.le_refl _⟩, ⟨by repeat (first | (with_reducible first | exact HB.out | apply below_alloc | apply pw_below_drewN | apply below_drew1) | exact HB.out)⟩⟩
  case rest =>
    clear HC3
    try clear p2
    try clear c3
    try clear c5
    try clear c5b0
    try clear c5b1
    try clear c6
    try clear c6b0
    try clear p6
    obtain ⟨kq, x25_2, rfl, HA, HJ2, HB⟩ := hcut
    cases kq with
    | zero => exact absurd HA.out (by simp [wire_TakeRow.j0])
    | succ kj2 =>
      have H := HA.out
      clear HA
      simp only [wire_TakeRow.j0] at H
      by_cases c7 : x25_2 = true
      · subst c7
        have H1 : (some (([] : List Int), ([] : List Int), some 4)) = some (r1, r2, r3) := by rw [if_pos rfl] at H; exact H
        clear H
        have H := H1
        clear H1
        simp only [Option.some.injEq, Prod.mk.injEq] at H
        obtain ⟨rfl, rfl, rfl⟩ := H
        go_wp2
        go_ret3
        exact ⟨_, _, by first | rfl | (simp [errW_none, errW_some] <;> rfl) | (simp [*, errW_none, errW_some] <;> rfl), by first | exact Kd.R_nil _ _ _ _ _ | exact Kd.N_nil _ _ _ _ _ | exact Kd.V_nil _ _ _ _ _ | exact Kd.Q_nil _ _ _ _ _ | exact Kd.S_nil _ _ _ _ _, by first | exact Kd.R_nil _ _ _ _ _ | exact Kd.N_nil _ _ _ _ _ | exact Kd.V_nil _ _ _ _ _ | exact Kd.Q_nil _ _ _ _ _ | exact Kd.S_nil _ _ _ _ _, by repeat (first | (with_reducible first | exact HB.out | apply below_alloc | apply pw_below_drewN | apply below_drew1) | exact HB.out)⟩
      · replace c7 := Bool.eq_false_iff.mpr c7
        subst c7
        have H1 : (if 0 ≤ t336 then (if t336 ≤ (wrap64 (t336 + t335)) then (if (wrap64 (t336 + t335)) ≤ (l0.length : Int) then ((slices_Clone_byte_byte.f ((l0.take ((wrap64 (t336 + t335)) : Int).toNat).drop (t336 : Int).toNat)).bind fun t338 => (if 0 ≤ (wrap64 (t336 + t335)) then ((slices_Clone_byte_byte.f (l0.drop ((wrap64 (t336 + t335)) : Int).toNat)).bind fun t342 => (some (t338, t342, none))) else (none))) else (none)) else (none)) else (none)) = some (r1, r2, r3) := by rw [if_neg (show ¬ (false = true) by decide)] at H; exact H
        clear H
        have H := H1
        clear H1
        by_cases c8 : 0 ≤ t336
        · rw [if_pos c8] at H
          have c8b0 := eq_true c8
          have c8b1 : decide (0 ≤ t336) = true := decide_eq_true c8
          clear c8
          by_cases c9 : t336 ≤ (wrap64 (t336 + t335))
          · rw [if_pos c9] at H
            have c9b0 := eq_true c9
            have c9b1 : decide (t336 ≤ (wrap64 (t336 + t335))) = true := decide_eq_true c9
            by_cases c10 : (wrap64 (t336 + t335)) ≤ (l0.length : Int)
            · rw [if_pos c10] at H
              have c10b0 := eq_true c10
              have c10b1 : decide ((wrap64 (t336 + t335)) ≤ (l0.length : Int)) = true := decide_eq_true c10
              replace H := Option.bind_eq_some_iff.mp H
              obtain ⟨t338, A110, H⟩ := H
              replace H : (if 0 ≤ (wrap64 (t336 + t335)) then ((slices_Clone_byte_byte.f (l0.drop ((wrap64 (t336 + t335)) : Int).toNat)).bind fun t342 => (some (t338, t342, none))) else (none)) = some (r1, r2, r3) := H
              have A11 := Aside0.mk A110
              clear A110
              obtain ⟨ji12, hji12⟩ : ∃ j_ : Int, (wrap64 (t336 + t335)) = j_ := ⟨_, rfl⟩
              replace H : (if 0 ≤ (ji12) then ((slices_Clone_byte_byte.f (l0.drop ((ji12) : Int).toNat)).bind fun t342 => (some (t338, t342, none))) else (none)) = some (r1, r2, r3) := by first | (rw [hji12] at H; exact H) | (simp only [hji12] at H ⊢; exact H)
              (try rw [hji12] at c9b0)
              (try rw [hji12] at c9b1)
              (try rw [hji12] at c9)
              (try rw [hji12] at c10b0)
              (try rw [hji12] at c10b1)
              (try rw [hji12] at c10)
              (try rw [hji12] at A11)
              have hji12w : (IntKind.i64.wrap (t336 + t335)) = ji12 := (i64_w _).trans hji12
              by_cases c13 : 0 ≤ (ji12)
              · rw [if_pos c13] at H
                have c13b0 := eq_true c13
                have c13b1 : decide (0 ≤ (ji12)) = true := decide_eq_true c13
                clear c13
                have c14b0 := eq_true (of_decide_eq_true (by first | (with_reducible assumption) | assumption) : (ji12) ≤ (l0.length : Int))
                replace H := Option.bind_eq_some_iff.mp H
                obtain ⟨t342, A150, H⟩ := H
                replace H : (some (t338, t342, none)) = some (r1, r2, r3) := H
                have A15 := Aside0.mk A150
                clear A150
                simp only [Option.some.injEq, Prod.mk.injEq] at H
                obtain ⟨rfl, rfl, rfl⟩ := H
                try go_wp2
                have n0_ := Aside0.mk (below_drew1 HB.out)
                clear HB
                have HB := n0_
                clear n0_
                obtain ⟨i017, hi017, _, hsz17, _⟩ := info_parts info5
                obtain ⟨A17, hcut17, hA17, hC17⟩ := print_mid_of (P := Try.prog) (Value.int .u8) 0 22 5 .i64 .i64 Try.underlying22 hi017 hsz17 A0 c0 l0 t336 (ji12) (of_decide_eq_true (by first | (with_reducible assumption) | assumption)) (by first | omega | exact of_decide_eq_true (by first | (with_reducible assumption) | assumption)) (of_decide_eq_true (by first | (with_reducible assumption) | assumption)) HC0.out
                have HR337 := Aside0.mk (Kd.C_of_reads (h1 := fun _ => rfl) (hA17 _ (Kd.reads_of_C HR0.out)))
                have HC337 := Aside0.mk hC17
                clear hA17 hC17 hi017 hsz17
                obtain ⟨i018, hi018, _, hsz18, _⟩ := info_parts info5
                obtain ⟨A18, hcut18, hA18, hC18⟩ := print_drop_of (P := Try.prog) (Value.int .u8) 0 22 5 .i64 Try.underlying22 hi018 hsz18 A0 c0 l0 (ji12) (of_decide_eq_true (by first | (with_reducible assumption) | assumption)) (of_decide_eq_true (by first | (with_reducible assumption) | assumption)) HC0.out
                have HR341 := Aside0.mk (Kd.C_of_reads (h1 := fun _ => rfl) (hA18 _ (Kd.reads_of_C HR0.out)))
                have HC341 := Aside0.mk hC18
                clear hA18 hC18 hi018 hsz18
                refine start_ (n := 16) (S := fun w' => True) (ds := []) #[false, false, false, false, false, false, false, false, false, false, false, false, false, false, false, false] (by kernel_rfl) rfl rfl trivial (fun hHeld => ?_); refine with_tabW wire_TakeRow.tab4 wire_TakeRow.bits4 (fun HT_ HW_ => ?_)
                generalize wc.drew = w16 at HB HR337 HR341 hHeld ⊢
                refine pure_ (i := 0) (N := some 27) (v := ?_) (a' := ?_) #[true, false, false, false, false, false, false, false, false, false, false, false, false, false, false, false] rfl rfl (any_of HT_.out (by kernel_rfl)) (fun _ _ _ h => h) (Or.inl ⟨by rfl, ?_⟩) ?_ ?_
                rotate_left
                · intro w'
                  go_simp
                  with_reducible rfl
                rotate_left
                · simp only [Act.put, List.setIfInBounds_toArray, List.set_cons_zero, List.set_cons_succ, i64_w, i32_w]
                  rfl
                refine pure_ (i := 1) (N := some 28) (v := ?_) (a' := ?_) #[true, true, false, false, false, false, false, false, false, false, false, false, false, false, false, false] rfl rfl (any_of HT_.out (by kernel_rfl)) (fun _ _ _ h => h) (Or.inl ⟨by rfl, ?_⟩) ?_ ?_
                rotate_left
                · intro w'
                  go_simp
                  with_reducible rfl
                rotate_left
                · simp only [Act.put, List.setIfInBounds_toArray, List.set_cons_zero, List.set_cons_succ, i64_w, i32_w]
                  rfl
                refine pure_ (i := 2) (N := some 29) (v := ?_) (a' := ?_) #[true, true, true, false, false, false, false, false, false, false, false, false, false, false, false, false] rfl rfl (any_of HT_.out (by kernel_rfl)) (fun _ _ _ h => h) (Or.inl ⟨by rfl, ?_⟩) ?_ ?_
                rotate_left
                · intro w'
                  go_simp
                  with_reducible rfl
                rotate_left
                · simp only [Act.put, List.setIfInBounds_toArray, List.set_cons_zero, List.set_cons_succ, i64_w, i32_w]
                  rfl
                refine pure_ (i := 3) (N := some 30) (v := ?_) (a' := ?_) #[true, true, true, true, false, false, false, false, false, false, false, false, false, false, false, false] rfl rfl (any_of HT_.out (by kernel_rfl)) (fun _ _ _ h => h) (Or.inl ⟨by rfl, ?_⟩) ?_ ?_
                rotate_left
                · intro w'
                  go_simp
                  with_reducible rfl
                rotate_left
                · simp only [Act.put, List.setIfInBounds_toArray, List.set_cons_zero, List.set_cons_succ, i64_w, i32_w]
                  rfl
                refine pure_ (i := 4) (N := some 31) (v := ?_) (a' := ?_) #[true, true, true, true, true, false, false, false, false, false, false, false, false, false, false, false] rfl rfl (any_of HT_.out (by kernel_rfl)) (fun _ _ _ h => h) (Or.inl ⟨by rfl, ?_⟩) ?_ ?_
                rotate_left
                · intro w'
                  go_simp
                  with_reducible rfl
                rotate_left
                · simp only [Act.put, List.setIfInBounds_toArray, List.set_cons_zero, List.set_cons_succ, i64_w, i32_w]
                  rfl
                refine pure_ (i := 5) (N := some 32) (v := ?_) (a' := ?_) #[true, true, true, true, true, true, false, false, false, false, false, false, false, false, false, false] rfl rfl (any_of HT_.out (by kernel_rfl)) (fun _ _ _ h => h) (Or.inl ⟨by rfl, ?_⟩) ?_ ?_
                rotate_left
                · intro w'
                  go_simp
                  with_reducible rfl
                rotate_left
                · simp only [Act.put, List.setIfInBounds_toArray, List.set_cons_zero, List.set_cons_succ, i64_w, i32_w]
                  rfl
                refine pure_ (i := 7) (N := some 34) (v := ?_) (a' := ?_) #[true, true, true, true, true, true, false, true, false, false, false, false, false, false, false, false] rfl rfl (any_of HT_.out (by kernel_rfl)) (fun _ _ _ h => h) (Or.inl ⟨by rfl, ?_⟩) ?_ ?_
                rotate_left
                · intro w'
                  go_simp
                  with_reducible rfl
                rotate_left
                · simp only [Act.put, List.setIfInBounds_toArray, List.set_cons_zero, List.set_cons_succ, i64_w, i32_w]
                  rfl
                refine pure_ (i := 8) (N := some 35) (v := ?_) (a' := ?_) #[true, true, true, true, true, true, false, true, true, false, false, false, false, false, false, false] rfl rfl (any_of HT_.out (by kernel_rfl)) (fun _ _ _ h => h) (Or.inl ⟨by rfl, ?_⟩) ?_ ?_
                rotate_left
                · intro w'
                  go_simp
                  with_reducible rfl
                rotate_left
                · simp only [Act.put, List.setIfInBounds_toArray, List.set_cons_zero, List.set_cons_succ, i64_w, i32_w]
                  rfl
                refine pure_ (i := 9) (N := some 36) (v := ?_) (a' := ?_) #[true, true, true, true, true, true, false, true, true, true, false, false, false, false, false, false] rfl rfl (any_of HT_.out (by kernel_rfl)) (fun _ _ _ h => h) (Or.inl ⟨by rfl, ?_⟩) ?_ ?_
                rotate_left
                · intro w'
                  go_simp
                  with_reducible rfl
                rotate_left
                · simp only [Act.put, List.setIfInBounds_toArray, List.set_cons_zero, List.set_cons_succ, i64_w, i32_w]
                  rfl
                refine pure_ (i := 10) (N := some 37) (v := ?_) (a' := ?_) #[true, true, true, true, true, true, false, true, true, true, true, false, false, false, false, false] rfl rfl (any_of HT_.out (by kernel_rfl)) (fun _ _ _ h => h) (Or.inl ⟨by rfl, ?_⟩) ?_ ?_
                rotate_left
                · intro w'
                  go_simp
                  with_reducible rfl
                rotate_left
                · simp only [Act.put, List.setIfInBounds_toArray, List.set_cons_zero, List.set_cons_succ, i64_w, i32_w]
                  rfl
                refine pure_ (i := 11) (N := some 38) (v := ?_) (a' := ?_) #[true, true, true, true, true, true, false, true, true, true, true, true, false, false, false, false] rfl rfl (any_of HT_.out (by kernel_rfl)) (fun _ _ _ h => h) (Or.inl ⟨by rfl, ?_⟩) ?_ ?_
                rotate_left
                · intro w'
                  go_simp
                  with_reducible rfl
                rotate_left
                · simp only [Act.put, List.setIfInBounds_toArray, List.set_cons_zero, List.set_cons_succ, i64_w, i32_w]
                  rfl
                refine one_ (i := 6) (N := some 33) #[true, true, true, true, true, true, true, true, true, true, true, true, false, false, false, false] rfl rfl (one_of HT_.out (by kernel_rfl)) (by decide) (fun K hK => ?_)
                refine goes_ Try.func50 (by kernel_rfl) rfl #[.slice A17 ((l0.take ((ji12) : Int).toNat).drop (t336 : Int).toNat).length (c0 - t336.toNat)] (by rfl) rfl rfl (by (try simp only [List.map_toArray, List.map_cons, List.map_nil]); first | done | (rw [show ((l0.take ((ji12) : Int).toNat).drop (t336 : Int).toNat).length = ((ji12).toNat - t336.toNat) from (by rw [List.length_drop, List.length_take]; have h_ : ((ji12) : Int) ≤ (l0.length : Int) := of_decide_eq_true (by first | (with_reducible assumption) | assumption); omega)] <;> rfl) | (simp only [hji12]; rfl) | rfl | (simp only [List.length_drop, List.length_take]; rfl)) ?_
                with_reducible refine (slices_Clone_byte_byte.calls _ _ ((l0.take ((ji12) : Int).toNat).drop (t336 : Int).toNat) t338 _ ?side1 ?side2 A11.out).mono ?_
                (case side1 => repeat (first | exact (Kd.C_below HR337.out HB.out) | (with_reducible refine Kd.C_alloc ?_ _) | (with_reducible refine Kd.C_drewN ?_ _) | (with_reducible refine Kd.C_drew ?_)))
                (case side2 => exact HC337.out)
                rintro e w19 ⟨v339, rfl, ho0, hb⟩
                refine ⟨_, rfl, ?_⟩
                have n0_ := Aside0.mk (Kd.R_lower ho0 (below_size (by repeat (first | (with_reducible first | exact HB.out | apply below_alloc | apply pw_below_drewN | apply below_drew1) | exact HB.out))))
                have n1_ := Aside0.mk (below_step (by repeat (first | (with_reducible first | exact HB.out | apply below_alloc | apply pw_below_drewN | apply below_drew1) | exact HB.out)) hb)
                clear HB
                have HO340 := n0_
                have HB := n1_
                clear n0_ n1_
                (try clear hb)
                (try clear hb2)
                (try clear hk)
                (try clear hi)
                (try clear ho0)
                refine hK.out _ _ trivial (fun hHeld => ?_)
                clear hK K
                refine norm_ (a' := ?_) ?_ ?_
                rotate_left
                · show Act.put _ (some 33) _ = _
                  simp only [Act.put, List.setIfInBounds_toArray, List.set_cons_zero, List.set_cons_succ, i64_w, i32_w]
                  rfl
                refine one_ (i := 12) (N := some 39) #[true, true, true, true, true, true, true, true, true, true, true, true, true, false, false, false] rfl rfl (one_of HT_.out (by kernel_rfl)) (by decide) (fun K hK => ?_)
                refine goes_ Try.func50 (by kernel_rfl) rfl #[.slice A18 (l0.drop ((ji12) : Int).toNat).length (c0 - (ji12).toNat)] (by rfl) rfl rfl (by (try simp only [List.map_toArray, List.map_cons, List.map_nil]); first | done | (rw [show (l0.drop ((ji12) : Int).toNat).length = (l0.length - (ji12).toNat) from List.length_drop] <;> rfl) | (simp only [hji12]; rfl) | rfl | (simp only [List.length_drop, List.length_take]; rfl)) ?_
                with_reducible refine (slices_Clone_byte_byte.calls _ _ (l0.drop ((ji12) : Int).toNat) t342 _ ?side1 ?side2 A15.out).mono ?_
                (case side1 => repeat (first | exact (Kd.C_below HR341.out HB.out) | (with_reducible refine Kd.C_alloc ?_ _) | (with_reducible refine Kd.C_drewN ?_ _) | (with_reducible refine Kd.C_drew ?_)))
                (case side2 => exact HC341.out)
                rintro e w20 ⟨v343, rfl, ho0, hb⟩
                refine ⟨_, rfl, ?_⟩
                have n0_ := Aside0.mk (Kd.R_elder' (by (with_reducible repeat (first | apply Kd.R_alloc | apply Kd.R_drewN | apply Kd.R_drew)); exact HO340.out) (Kd.R_base ho0) hb)
                have n1_ := Aside0.mk (Kd.R_lower (Kd.R_new' ho0 (Kd.R_lt (by (with_reducible repeat (first | apply Kd.R_alloc | apply Kd.R_drewN | apply Kd.R_drew)); exact HO340.out))) (below_size (by repeat (first | (with_reducible first | exact HB.out | apply below_alloc | apply pw_below_drewN | apply below_drew1) | exact HB.out))))
                have n2_ := Aside0.mk (below_step (by repeat (first | (with_reducible first | exact HB.out | apply below_alloc | apply pw_below_drewN | apply below_drew1) | exact HB.out)) hb)
                clear HO340
                clear HB
                have HO340 := n0_
                have HO344 := n1_
                have HB := n2_
                clear n0_ n1_ n2_
                (try clear hb)
                (try clear hb2)
                (try clear hk)
                (try clear hi)
                (try clear ho0)
                refine hK.out _ _ trivial (fun hHeld => ?_)
                clear hK K
                refine norm_ (a' := ?_) ?_ ?_
                rotate_left
                · show Act.put _ (some 39) _ = _
                  simp only [Act.put, List.setIfInBounds_toArray, List.set_cons_zero, List.set_cons_succ, i64_w, i32_w]
                  rfl
                refine pure_ (i := 13) (N := some 2) (v := ?_) (a' := ?_) #[true, true, true, true, true, true, true, true, true, true, true, true, true, true, false, false] rfl rfl (any_of HT_.out (by kernel_rfl)) (fun _ _ _ h => h) (Or.inl ⟨by rfl, ?_⟩) ?_ ?_
                rotate_left
                · intro w'
                  go_simp
                  with_reducible rfl
                rotate_left
                · simp only [Act.put, List.setIfInBounds_toArray, List.set_cons_zero, List.set_cons_succ, i64_w, i32_w]
                  rfl
                refine pure_ (i := 14) (N := some 3) (v := ?_) (a' := ?_) #[true, true, true, true, true, true, true, true, true, true, true, true, true, true, true, false] rfl rfl (any_of HT_.out (by kernel_rfl)) (fun _ _ _ h => h) (Or.inl ⟨by rfl, ?_⟩) ?_ ?_
                rotate_left
                · intro w'
                  go_simp
                  with_reducible rfl
                rotate_left
                · simp only [Act.put, List.setIfInBounds_toArray, List.set_cons_zero, List.set_cons_succ, i64_w, i32_w]
                  rfl
                refine pure_ (i := 15) (N := some 4) (v := ?_) (a' := ?_) #[true, true, true, true, true, true, true, true, true, true, true, true, true, true, true, true] rfl rfl (any_of HT_.out (by kernel_rfl)) (fun _ _ _ h => h) (Or.inl ⟨by rfl, ?_⟩) ?_ ?_
                rotate_left
                · intro w'
                  go_simp
                  with_reducible rfl
                rotate_left
                · simp only [Act.put, List.setIfInBounds_toArray, List.set_cons_zero, List.set_cons_succ, i64_w, i32_w]
                  rfl
                refine done_ (done_of HT_.out (by kernel_rfl)) ?_
                try go_wp2
                go_ret3
                exact ⟨_, _, by first | rfl | (simp [errW_none, errW_some] <;> rfl) | (simp only [← hji12]; first | rfl | (simp [errW_none, errW_some] <;> rfl)) | (simp [*, errW_none, errW_some] <;> rfl), by (with_reducible repeat (first | apply Kd.R_alloc | apply Kd.R_drewN | apply Kd.R_drew)); exact Kd.R_mono HO340.out (fun _ hk => hk.2), by (with_reducible repeat (first | apply Kd.R_alloc | apply Kd.R_drewN | apply Kd.R_drew)); exact Kd.R_mono HO344.out (fun _ hk => hk.2), by repeat (first | (with_reducible first | exact HB.out | apply below_alloc | apply pw_below_drewN | apply below_drew1) | exact HB.out)⟩
              · rw [if_neg c13] at H
                exact absurd H (by simp)
            · rw [if_neg c10] at H
              exact absurd H (by simp)
          · rw [if_neg c9] at H
            exact absurd H (by simp)
        · rw [if_neg c8] at H
          exact absurd H (by simp)

end Go.Proofs.Ytbphmpncajfaiaa.Py
-- begun as a text of the kit's print.py, mended by hand
namespace Go.Proofs.Ytbphmpncajfaiaa.Py
open Go.RowKit Go.Proofs.YtbphmpncajfaiaaW.PrintWords Go.Proofs.YtbphmpncajfaiaaW.PrintLast Go.Proofs.YtbphmpncajfaiaaW.PrintMore
attribute [local go_sem] max2_int min2_int max_two min_two max_three min_three max_four min_four   -- for this text's walks alone
set_option linter.unusedVariables false
set_option linter.unusedSimpArgs false

/-! ### palimpsestref02_Number: function 51 -/
mutual
def palimpsestref02_Number.j0 : Nat → Int → Option (List Int)
  | 0, _ => none
  | k + 1, x3 => palimpsestref02_Number.l0 k x3 ([] : List Int)
def palimpsestref02_Number.l0 : Nat → Int → List Int → Option (List Int)
  | 0, _, _ => none
  | k + 1, x3, x4 => if (IntKind.u64.wrap (Int.tdiv x3 128)) = 0 then (if x4.length < 140737488355328 then (some (x4 ++ [(Int.tmod x3 128) % 256])) else (none)) else (if x4.length < 140737488355328 then (palimpsestref02_Number.l0 k (IntKind.u64.wrap (Int.tdiv x3 128)) (x4 ++ [(((Int.tmod x3 128) % 256) + 128) % 256])) else (none))
end
def palimpsestref02_Number.f (k : Nat) (a0 : Int) : Option (List Int) := if a0 < 0 then (palimpsestref02_Number.j0 k (IntKind.u64.wrap ((IntKind.u64.wrap ((IntKind.u64.wrap (wrap64 (-(wrap64 (a0 + 1))))) * 2)) + 1))) else (palimpsestref02_Number.j0 k (IntKind.u64.wrap ((IntKind.u64.wrap (a0)) * 2)))
theorem palimpsestref02_Number.mono_l : ∀ k, (∀ y0, LeO (palimpsestref02_Number.j0 k y0) (palimpsestref02_Number.j0 (k + 1) y0)) ∧ (∀ y0 y1, LeO (palimpsestref02_Number.l0 k y0 y1) (palimpsestref02_Number.l0 (k + 1) y0 y1))
  | 0 => ⟨fun _ r h => by simp [palimpsestref02_Number.j0] at h, fun _ _ r h => by simp [palimpsestref02_Number.l0] at h⟩
  | k + 1 => by
    obtain ⟨ih0, ih1⟩ := palimpsestref02_Number.mono_l k
    refine ⟨?_, ?_⟩
    · intro y0
      unfold palimpsestref02_Number.j0
      repeat' first
      | (with_reducible exact ih0 _)
      | (with_reducible exact ih1 _ _)
      | (with_reducible exact LeO.refl _)
      | (with_reducible exact LeO.none _)
      | (with_reducible refine LeO.ite ?_ ?_)
      | (with_reducible refine LeO.bind ?_ (fun _ => ?_))
      | exact ih0 _
      | exact ih1 _ _
      | exact LeO.none _
      | refine LeO.ite ?_ ?_
      | refine LeO.bind ?_ (fun _ => ?_)
    · intro y0 y1
      unfold palimpsestref02_Number.l0
      repeat' first
      | (with_reducible exact ih0 _)
      | (with_reducible exact ih1 _ _)
      | (with_reducible exact LeO.refl _)
      | (with_reducible exact LeO.none _)
      | (with_reducible refine LeO.ite ?_ ?_)
      | (with_reducible refine LeO.bind ?_ (fun _ => ?_))
      | exact ih0 _
      | exact ih1 _ _
      | exact LeO.none _
      | refine LeO.ite ?_ ?_
      | refine LeO.bind ?_ (fun _ => ?_)
theorem palimpsestref02_Number.mono : ∀ a0 k, LeO (palimpsestref02_Number.f k a0) (palimpsestref02_Number.f (k + 1) a0) := by
  intro a0 k
  obtain ⟨ih0, ih1⟩ := palimpsestref02_Number.mono_l k
  unfold palimpsestref02_Number.f
  repeat' first
      | (with_reducible exact ih0 _)
      | (with_reducible exact ih1 _ _)
      | (with_reducible exact LeO.refl _)
      | (with_reducible exact LeO.none _)
      | (with_reducible refine LeO.ite ?_ ?_)
      | (with_reducible refine LeO.bind ?_ (fun _ => ?_))
      | exact ih0 _
      | exact ih1 _ _
      | exact LeO.none _
      | refine LeO.ite ?_ ?_
      | refine LeO.bind ?_ (fun _ => ?_)
set_option maxHeartbeats 8000000 in
set_option maxRecDepth 100000 in
theorem palimpsestref02_Number.calls (k : Nat) (a0 : Int) (r : List Int) (w : World) (h : palimpsestref02_Number.f k a0 = some r) :
    Calls Try.prog 51 #[.int .i64 a0] w fun e w' => ∃ v0_ : Value, e = .returned (v0_) ∧ Kd.R (Kd.int .u8) 5 w' w.heap.size (fun _ => True) v0_ r ∧ Below w.heap.size w w' := by
  have HB := Aside0.mk (Below.refl w.heap.size w)
  have H : (if a0 < 0 then (palimpsestref02_Number.j0 k (IntKind.u64.wrap ((IntKind.u64.wrap ((IntKind.u64.wrap (wrap64 (-(wrap64 (a0 + 1))))) * 2)) + 1))) else (palimpsestref02_Number.j0 k (IntKind.u64.wrap ((IntKind.u64.wrap (a0)) * 2)))) = some r := h
  clear h
  have HC2 := Aside0.mk H
  clear H
  go_enter Try.func51, Try.ntmps51
  go_upto_if 10 with (fail)
  go_cut [3] (fun v3 wc => ∃ (kq : Nat) (x3_1 : Int), v3 = .int .u64 x3_1 ∧ Aside0 (palimpsestref02_Number.j0 kq x3_1 = some r) ∧ Aside0 (kq ≤ k) ∧ Aside0 (Below w.heap.size w wc))
  case first =>
    have H := HC2.out
    clear HC2
    by_cases c3 : a0 < 0
    · rw [if_pos c3] at H
      have c3b0 : decide (a0 < 0) = true := decide_eq_true c3
      clear c3
      (first | rw [c3b0] | (simp only [i64_w, i32_w]; rw [c3b0]) | skip)
      have H' := Aside0.mk H
      clear H
      go_wp2
      go_meet
      case rel => exact ⟨_, (IntKind.u64.wrap ((IntKind.u64.wrap ((IntKind.u64.wrap (wrap64 (-(wrap64 (a0 + 1))))) * 2)) + 1)), (by first | rfl | (simp; done) | (simp [*]; done)), H', ⟨by first | omega | exact Nat.le_refl _⟩, ⟨by repeat (first | (with_reducible first | exact HB.out | apply below_alloc | apply pw_below_drewN | apply below_drew1) | exact HB.out)⟩⟩
    · rw [if_neg c3] at H
      have c3b0 : decide (a0 < 0) = false := decide_eq_false c3
      clear c3
      (first | rw [c3b0] | (simp only [i64_w, i32_w]; rw [c3b0]) | skip)
      have H' := Aside0.mk H
      clear H
      go_wp2
      go_meet
      case rel => exact ⟨_, (IntKind.u64.wrap ((IntKind.u64.wrap (a0)) * 2)), (by first | rfl | (simp; done) | (simp [*]; done)), H', ⟨by first | omega | exact Nat.le_refl _⟩, ⟨by repeat (first | (with_reducible first | exact HB.out | apply below_alloc | apply pw_below_drewN | apply below_drew1) | exact HB.out)⟩⟩
  case rest =>
    clear HC2
    try clear p2
    try clear c3
    try clear c3b0
    obtain ⟨kq, x3_1, rfl, HA, HJ1, HB⟩ := hcut
    cases kq with
    | zero => exact absurd HA.out (by simp [palimpsestref02_Number.j0])
    | succ kj1 =>
      have H := HA.out
      clear HA
      simp only [palimpsestref02_Number.j0] at H
      have H' := Aside0.mk H
      clear H
      go_wp2
      go_loopg [3, 4] kj1 (fun kq v3 v4 w' => ∃ (x3_2 : Int) (x4_2 : List Int), v3 = .int .u64 x3_2 ∧ Aside0 (palimpsestref02_Number.l0 kq x3_2 x4_2 = some r) ∧ Aside0 (kq ≤ kj1) ∧ Aside0 (Kd.R (Kd.int .u8) 5 w' w.heap.size (fun _ => True) v4 x4_2) ∧ Aside0 (Below w.heap.size w w'))
      case atStart => exact ⟨(x3_1), (([] : List Int)), (by first | rfl | (simp; done) | (simp [*]; done)), H', ⟨Nat.le_refl _⟩, ⟨by first | exact Kd.R_nil _ _ _ _ _ | exact Kd.N_nil _ _ _ _ _ | exact Kd.V_nil _ _ _ _ _ | exact Kd.Q_nil _ _ _ _ _ | exact Kd.S_nil _ _ _ _ _⟩, ⟨by repeat (first | (with_reducible first | exact HB.out | apply below_alloc | apply pw_below_drewN | apply below_drew1) | exact HB.out)⟩⟩
      case round =>
        clear H'
        try clear p2
        try clear c3
        try clear c3b0
        try clear p2
        obtain ⟨x3_2, x4_2, rfl, HA, HK2, HO_4, HB⟩ := hrel
        cases gk with
        | zero => exact absurd HA.out (by simp [palimpsestref02_Number.l0])
        | succ k2 =>
          have H := HA.out
          clear HA
          simp only [palimpsestref02_Number.l0] at H
          by_cases c4 : (IntKind.u64.wrap (Int.tdiv x3_2 128)) = 0
          · rw [if_pos c4] at H
            have c4b0 : ((IntKind.u64.wrap (Int.tdiv x3_2 128)) == 0) = true := beq_iff_eq.mpr c4
            have c4b1 : ((IntKind.u64.wrap (Int.tdiv x3_2 128)) != 0) = false := bne_eq_false_iff_eq.mpr c4
            clear c4
            by_cases c5 : x4_2.length < 140737488355328
            · rw [if_pos c5] at H
              have LMc5 := Aside0.mk c5
              clear c5
              obtain ⟨y220, hy220⟩ : ∃ y_ : List Int, y_ = (x4_2 ++ [(Int.tmod x3_2 128) % 256]) := ⟨_, rfl⟩
              replace H : (some y220) = some r := by first | (rw [hy220]; with_reducible exact H) | (have H2_ := (Option.bind_some _ _).symm.trans H; rw [hy220]; with_reducible exact H2_) | (have H2_ := (Option.bind_some _ _).symm.trans H; with_reducible exact H2_) | with_reducible exact H | (rw [hy220]; exact H) | exact H
              have Ny220 := Aside0.mk hy220
              clear hy220
              obtain rfl := Option.some.inj H
              go_wp2_with (first | ((with_reducible refine gate_builtin (b := .append) (xs := #[.tmp 24, .tmp 26]) rfl ?_); at_builtin; refine Kd.R_append (Kd.int .u8) (w0 := w) w.heap.size rfl (.tmp 24) (.tmp 26) 22 5 (.int .u8 0) 1 rfl Try.underlying22 info5 rfl (by decide) (by omega) u4 x4_2 ((Int.tmod x3_2 128) % 256) [.int .u8 ((Int.tmod x3_2 128) % 256)] (fun _ => True) (fun _ => False) rfl rfl ?aP (fun _ hk => hk.elim) ?aF ?aO ?aB ?aS ?aL ?_; (case aP => exact rfl); (case aB => exact (by repeat (first | (with_reducible first | exact HB.out | apply below_alloc | apply pw_below_drewN | apply below_drew1) | exact HB.out))); (case aF => exact (fun _ _ => trivial)); (case aO => exact (by (with_reducible repeat (first | apply Kd.R_alloc | apply Kd.R_drewN | apply Kd.R_drew)); exact HO_4.out)); (case aS => exact (below_size (by repeat (first | (with_reducible first | exact HB.out | apply below_alloc | apply pw_below_drewN | apply below_drew1) | exact HB.out)))); (case aL => have := LMc5.out; omega); intro v221 w6 ho hb hg hat; rw [← Ny220.out] at ho; have n0_ := Aside0.mk (hb); have n1_ := Aside0.mk (ho); clear HB; clear HO_4; have HB := n0_; have HO222 := n1_; clear n0_ n1_; clear ho hb hg hat))
              go_ret
              exact ⟨_, by first | rfl | (simp [errW_none, errW_some] <;> rfl) | (simp [*, errW_none, errW_some] <;> rfl), by (with_reducible repeat (first | apply Kd.R_alloc | apply Kd.R_drewN | apply Kd.R_drew)); exact HO222.out, by repeat (first | (with_reducible first | exact HB.out | apply below_alloc | apply pw_below_drewN | apply below_drew1) | exact HB.out)⟩
            · rw [if_neg c5] at H
              exact absurd H (by simp)
          · rw [if_neg c4] at H
            have c4b0 : ((IntKind.u64.wrap (Int.tdiv x3_2 128)) == 0) = false := beq_eq_false_iff_ne.mpr c4
            have c4b1 : ((IntKind.u64.wrap (Int.tdiv x3_2 128)) != 0) = true := bne_iff_ne.mpr c4
            by_cases c7 : x4_2.length < 140737488355328
            · rw [if_pos c7] at H
              have LMc7 := Aside0.mk c7
              clear c7
              rw [show (((Int.tmod x3_2 128) % 256) + 128) % 256 = ((Int.tmod x3_2 128) + 128) % 256 by omega] at H
              obtain ⟨y223, hy223⟩ : ∃ y_ : List Int, y_ = (x4_2 ++ [((Int.tmod x3_2 128) + 128) % 256]) := ⟨_, rfl⟩
              replace H : (palimpsestref02_Number.l0 k2 (IntKind.u64.wrap (Int.tdiv x3_2 128)) y223) = some r := by first | (rw [hy223]; with_reducible exact H) | (have H2_ := (Option.bind_some _ _).symm.trans H; rw [hy223]; with_reducible exact H2_) | (have H2_ := (Option.bind_some _ _).symm.trans H; with_reducible exact H2_) | with_reducible exact H | (rw [hy223]; exact H) | exact H
              have Ny223 := Aside0.mk hy223
              clear hy223
              have H' := Aside0.mk H
              clear H
              go_wp2_with (first | ((with_reducible refine gate_builtin (b := .append) (xs := #[.tmp 28, .tmp 31]) rfl ?_); at_builtin; refine Kd.R_append (Kd.int .u8) (w0 := w) w.heap.size rfl (.tmp 28) (.tmp 31) 22 5 (.int .u8 0) 1 rfl Try.underlying22 info5 rfl (by decide) (by omega) u4 x4_2 (((Int.tmod x3_2 128) + 128) % 256) [.int .u8 (((Int.tmod x3_2 128) + 128) % 256)] (fun _ => True) (fun _ => False) rfl rfl ?aP (fun _ hk => hk.elim) ?aF ?aO ?aB ?aS ?aL ?_; (case aP => exact rfl); (case aB => exact (by repeat (first | (with_reducible first | exact HB.out | apply below_alloc | apply pw_below_drewN | apply below_drew1) | exact HB.out))); (case aF => exact (fun _ _ => trivial)); (case aO => exact (by (with_reducible repeat (first | apply Kd.R_alloc | apply Kd.R_drewN | apply Kd.R_drew)); exact HO_4.out)); (case aS => exact (below_size (by repeat (first | (with_reducible first | exact HB.out | apply below_alloc | apply pw_below_drewN | apply below_drew1) | exact HB.out)))); (case aL => have := LMc7.out; omega); intro v224 w8 ho hb hg hat; rw [← Ny223.out] at ho; have n0_ := Aside0.mk (hb); have n1_ := Aside0.mk (ho); clear HB; clear HO_4; have HB := n0_; have HO225 := n1_; clear n0_ n1_; clear ho hb hg hat))
              go_roundg k2
              case measure => have := HJ1.out; have := HK2.out; omega
              case rel => exact ⟨(IntKind.u64.wrap (Int.tdiv x3_2 128)), (y223), (by first | rfl | (simp; done) | (simp [*]; done)), H', ⟨by have := HJ1.out; have := HK2.out; omega⟩, ⟨by (with_reducible repeat (first | apply Kd.R_alloc | apply Kd.R_drewN | apply Kd.R_drew)); exact HO225.out⟩, ⟨by repeat (first | (with_reducible first | exact HB.out | apply below_alloc | apply pw_below_drewN | apply below_drew1) | exact HB.out)⟩⟩
            · rw [if_neg c7] at H
              exact absurd H (by simp)

end Go.Proofs.Ytbphmpncajfaiaa.Py
-- PRINTED by print.py (a twelfth state) out of the translation. Not trusted: Lean checks it.
namespace Go.Proofs.Ytbphmpncajfaiaa.Py
open Go.RowKit Go.Proofs.YtbphmpncajfaiaaW.PrintWords Go.Proofs.YtbphmpncajfaiaaW.PrintLast Go.Proofs.YtbphmpncajfaiaaW.PrintMore
attribute [local go_sem] max2_int min2_int max_two min_two max_three min_three max_four min_four   -- for this text's walks alone
set_option linter.unusedVariables false
set_option linter.unusedSimpArgs false

/-! ### palimpsestref02_Put: function 22 -/
def palimpsestref02_Put.l0 : Nat → List Int → List Int → Int → Option (List Int)
  | 0, _, _, _ => none
  | k + 1, x1, x5, x6 => if x6 < (x1.length : Int) then (if 0 ≤ x6 then ((palimpsestref02_Number.f k (rd x1 x6)).bind fun t239 => (if x5.length + t239.length < 140737488355328 then (palimpsestref02_Put.l0 k x1 (x5 ++ t239) (wrap64 (x6 + 1))) else (none))) else (none)) else (some x5)
def palimpsestref02_Put.f (k : Nat) (l0 : List Int) (l1 : List Int) : Option (List Int) := (some (([] : List Int) : List Int)).bind fun y232 => (if y232.length + l0.length < 140737488355328 then (palimpsestref02_Put.l0 k l1 (y232 ++ l0) 0) else (none))
theorem palimpsestref02_Put.mono_l : ∀ k, (∀ y0 y1 y2, LeO (palimpsestref02_Put.l0 k y0 y1 y2) (palimpsestref02_Put.l0 (k + 1) y0 y1 y2))
  | 0 => fun _ _ _ r h => by simp [palimpsestref02_Put.l0] at h
  | k + 1 => by
    have ih0 := palimpsestref02_Put.mono_l k
    · intro y0 y1 y2
      unfold palimpsestref02_Put.l0
      repeat' first
      | (with_reducible exact ih0 _ _ _)
      | (with_reducible exact palimpsestref02_Number.mono _ _)
      | (with_reducible exact LeO.refl _)
      | (with_reducible exact LeO.none _)
      | (with_reducible refine LeO.ite ?_ ?_)
      | (with_reducible refine LeO.bind ?_ (fun _ => ?_))
      | exact ih0 _ _ _
      | exact palimpsestref02_Number.mono _ _
      | exact LeO.none _
      | refine LeO.ite ?_ ?_
      | refine LeO.bind ?_ (fun _ => ?_)
theorem palimpsestref02_Put.mono : ∀ a0 a1 k, LeO (palimpsestref02_Put.f k a0 a1) (palimpsestref02_Put.f (k + 1) a0 a1) := by
  intro a0 a1 k
  have ih0 := palimpsestref02_Put.mono_l k
  unfold palimpsestref02_Put.f
  repeat' first
      | (with_reducible exact ih0 _ _ _)
      | (with_reducible exact palimpsestref02_Number.mono _ _)
      | (with_reducible exact LeO.refl _)
      | (with_reducible exact LeO.none _)
      | (with_reducible refine LeO.ite ?_ ?_)
      | (with_reducible refine LeO.bind ?_ (fun _ => ?_))
      | exact ih0 _ _ _
      | exact palimpsestref02_Number.mono _ _
      | exact LeO.none _
      | refine LeO.ite ?_ ?_
      | refine LeO.bind ?_ (fun _ => ?_)
set_option maxHeartbeats 8000000 in
set_option maxRecDepth 100000 in
theorem palimpsestref02_Put.calls (k : Nat) (A0 : Option Addr) (c0 : Nat) (l0 : List Int) (A1 : Option Addr) (c1 : Nat) (l1 : List Int) (r : List Int) (w : World) (hr0 : Kd.C (Kd.int .u8) w A0 l0.length l0) (hc0 : l0.length ≤ c0) (hr1 : Kd.C (Kd.int .i64) w A1 l1.length l1) (hc1 : l1.length ≤ c1) (h : palimpsestref02_Put.f k l0 l1 = some r) :
    Calls Try.prog 22 #[.slice A0 l0.length c0, .slice A1 l1.length c1] w fun e w' => ∃ v0_ : Value, e = .returned (v0_) ∧ Kd.R (Kd.int .u8) 5 w' w.heap.size (fun _ => True) v0_ r ∧ Below w.heap.size w w' := by
  have HR0 := Aside0.mk hr0
  have HC0 := Aside0.mk hc0
  clear hr0 hc0
  have HR1 := Aside0.mk hr1
  have HC1 := Aside0.mk hc1
  clear hr1 hc1
  have HB := Aside0.mk (Below.refl w.heap.size w)
  have H : ((some (([] : List Int) : List Int)).bind fun y232 => (if y232.length + l0.length < 140737488355328 then (palimpsestref02_Put.l0 k l1 (y232 ++ l0) 0) else (none))) = some r := h
  clear h
  obtain ⟨y232, hy232⟩ : ∃ y_ : List Int, y_ = (([] : List Int)) := ⟨_, rfl⟩
  replace H : (if y232.length + l0.length < 140737488355328 then (palimpsestref02_Put.l0 k l1 (y232 ++ l0) 0) else (none)) = some r := by first | (rw [hy232]; with_reducible exact H) | (have H2_ := (Option.bind_some _ _).symm.trans H; rw [hy232]; with_reducible exact H2_) | (have H2_ := (Option.bind_some _ _).symm.trans H; with_reducible exact H2_) | with_reducible exact H | (rw [hy232]; exact H) | exact H
  have Ny232 := Aside0.mk hy232
  clear hy232
  by_cases c3 : y232.length + l0.length < 140737488355328
  · rw [if_pos c3] at H
    have LMc3 := Aside0.mk c3
    clear c3
    obtain ⟨y235, hy235⟩ : ∃ y_ : List Int, y_ = (y232 ++ l0) := ⟨_, rfl⟩
    replace H : (palimpsestref02_Put.l0 k l1 y235 0) = some r := by first | (rw [hy235]; with_reducible exact H) | (have H2_ := (Option.bind_some _ _).symm.trans H; rw [hy235]; with_reducible exact H2_) | (have H2_ := (Option.bind_some _ _).symm.trans H; with_reducible exact H2_) | with_reducible exact H | (rw [hy235]; exact H) | exact H
    have Ny235 := Aside0.mk hy235
    clear hy235
    have H' := Aside0.mk H
    clear H
    go_enter Try.func22, Try.ntmps22
    go_wp2_with (first | ((with_reducible refine gate_dst (N := 7) rfl ?_); refine Kd.R_lit (Kd.int .u8) _ 5 ?hg (N := 7) ?hd (xs := ([] : List Int)) (inner := []) (ok := fun _ => True) (okp := fun _ => True) ?hr ?hp (fun _ hk => hk) trivial (Below.refl _ _) (Nat.le_refl _) (by simp) ?_; (case hd => rfl); (case hg => rfl); (case hr => first | (go_simp; done) | (go_simp; rfl)); (case hp => exact (Reps.none _ _)); intro v233 w4 ho5 hb hg_ hnew_; clear hg_ hnew_; (first | rw [← Ny232.out] at ho5 | (simp only [Int.reduceToNat] at ho5; rw [← Ny232.out] at ho5)); have n0_ := Aside0.mk (Kd.R_lower ho5 (below_size (by repeat (first | (with_reducible first | exact HB.out | apply below_alloc | apply pw_below_drewN | apply below_drew1) | exact HB.out)))); have n1_ := Aside0.mk (below_step (by repeat (first | (with_reducible first | exact HB.out | apply below_alloc | apply pw_below_drewN | apply below_drew1) | exact HB.out)) hb); clear HB; have HO234 := n0_; have HB := n1_; clear n0_ n1_; clear hb ho5) | ((with_reducible refine gate_builtin (b := .append) (xs := #[.tmp 7, .tmp 8]) rfl ?_); at_builtin; refine Kd.R_append_rows (Kd.int .u8) (w0 := w) w.heap.size rfl (.tmp 7) (.tmp 8) 22 5 (.int .u8 0) 1 rfl Try.underlying22 info5 rfl (by decide) (by omega) v233 y232 l0 _ _ _ (fun _ => True) (fun _ => False) rfl rfl ?aO ?aR (fun _ _ h => h) (fun _ h => h.elim) ?aF ?aB ?aS ?aL ?_; (case aR => repeat (first | exact (Kd.C_below HR0.out HB.out) | (with_reducible refine Kd.C_alloc ?_ _) | (with_reducible refine Kd.C_drewN ?_ _) | (with_reducible refine Kd.C_drew ?_))); (case aB => exact (by repeat (first | (with_reducible first | exact HB.out | apply below_alloc | apply pw_below_drewN | apply below_drew1) | exact HB.out))); (case aF => exact (fun _ _ => trivial)); (case aO => exact (by (with_reducible repeat (first | apply Kd.R_alloc | apply Kd.R_drewN | apply Kd.R_drew)); exact HO234.out)); (case aS => exact (below_size (by repeat (first | (with_reducible first | exact HB.out | apply below_alloc | apply pw_below_drewN | apply below_drew1) | exact HB.out)))); (case aL => have := LMc3.out; omega); intro v236 w6 ho hb hg hat; rw [← Ny235.out] at ho; have n0_ := Aside0.mk (hb); have n1_ := Aside0.mk (ho); clear HB; clear HO234; have HB := n0_; have HO237 := n1_; clear n0_ n1_; clear ho hb hg hat))
    go_loopg [5, 6] k (fun kq v5 v6 w' => ∃ (x5_1 : List Int) (x6_1 : Int), v6 = .int .i64 x6_1 ∧ Aside0 (palimpsestref02_Put.l0 kq l1 x5_1 x6_1 = some r) ∧ Aside0 (kq ≤ k) ∧ Aside0 (Kd.R (Kd.int .u8) 5 w' w.heap.size (fun _ => True) v5 x5_1) ∧ Aside0 (Below w.heap.size w w'))
    case atStart => exact ⟨(y235), (0), (by first | rfl | (simp; done) | (simp [*]; done)), H', ⟨Nat.le_refl _⟩, ⟨by (with_reducible repeat (first | apply Kd.R_alloc | apply Kd.R_drewN | apply Kd.R_drew)); exact HO237.out⟩, ⟨by repeat (first | (with_reducible first | exact HB.out | apply below_alloc | apply pw_below_drewN | apply below_drew1) | exact HB.out)⟩⟩
    case round =>
      clear H'
      try clear c1
      try clear c2
      try clear p2
      try clear c3
      obtain ⟨x5_1, x6_1, rfl, HA, HK1, HO_5, HB⟩ := hrel
      cases gk with
      | zero => exact absurd HA.out (by simp [palimpsestref02_Put.l0])
      | succ k1 =>
        have H := HA.out
        clear HA
        simp only [palimpsestref02_Put.l0] at H
        by_cases c7 : x6_1 < (l1.length : Int)
        · rw [if_pos c7] at H
          have c7b0 : decide (x6_1 < (l1.length : Int)) = true := decide_eq_true c7
          clear c7
          by_cases c8 : 0 ≤ x6_1
          · rw [if_pos c8] at H
            have c8b0 : decide (0 ≤ x6_1) = true := decide_eq_true c8
            clear c8
            replace H := Option.bind_eq_some_iff.mp H
            obtain ⟨t239, A90, H⟩ := H
            replace H : (if x5_1.length + t239.length < 140737488355328 then (palimpsestref02_Put.l0 k1 l1 (x5_1 ++ t239) (wrap64 (x6_1 + 1))) else (none)) = some r := H
            have A9 := Aside0.mk A90
            clear A90
            by_cases c10 : x5_1.length + t239.length < 140737488355328
            · rw [if_pos c10] at H
              have LMc10 := Aside0.mk c10
              clear c10
              obtain ⟨y242, hy242⟩ : ∃ y_ : List Int, y_ = (x5_1 ++ t239) := ⟨_, rfl⟩
              replace H : (palimpsestref02_Put.l0 k1 l1 y242 (wrap64 (x6_1 + 1))) = some r := by first | (rw [hy242]; with_reducible exact H) | (have H2_ := (Option.bind_some _ _).symm.trans H; rw [hy242]; with_reducible exact H2_) | (have H2_ := (Option.bind_some _ _).symm.trans H; with_reducible exact H2_) | with_reducible exact H | (rw [hy242]; exact H) | exact H
              have Ny242 := Aside0.mk hy242
              clear hy242
              have H' := Aside0.mk H
              clear H
              have p238 : 0 ≤ (x6_1 : Int) := of_decide_eq_true (by first | (with_reducible assumption) | assumption)
              have q238 : x6_1 < (l1.length : Int) := of_decide_eq_true (by first | (with_reducible assumption) | assumption)
              obtain ⟨ad238, e238, hx238_0⟩ := Kd.at_int HR1.out x6_1 p238 q238
              cases e238
              replace hx238_0 := (HB.out.cell (World.block_lt_of_cell? w _ hx238_0)).trans hx238_0
              replace p238 := eq_true p238
              replace q238 := eq_true q238
              go_wp2_with (first | ((with_reducible refine gate_callee (f := 51) rfl ?_); refine goesL_ (some 21) rfl rfl Try.func51 (by kernel_rfl) rfl #[.int .i64 (rd l1 x6_1)] rfl (by (try simp only [List.map_toArray, List.map_cons, List.map_nil]); first | done | rfl | (simp only [List.length_drop, List.length_take]; rfl)) ?_; (with_reducible refine (palimpsestref02_Number.calls k1 (rd l1 x6_1) t239 _ A9.out).mono ?_); rintro e w11 ⟨v240, rfl, ho0, hb⟩; refine ⟨_, rfl, ?_⟩; have n0_ := Aside0.mk (Kd.R_elder' (by (with_reducible repeat (first | apply Kd.R_alloc | apply Kd.R_drewN | apply Kd.R_drew)); exact HO_5.out) (Kd.R_base ho0) hb); have n1_ := Aside0.mk (Kd.R_lower (Kd.R_new' ho0 (Kd.R_lt (by (with_reducible repeat (first | apply Kd.R_alloc | apply Kd.R_drewN | apply Kd.R_drew)); exact HO_5.out))) (below_size (by repeat (first | (with_reducible first | exact HB.out | apply below_alloc | apply pw_below_drewN | apply below_drew1) | exact HB.out)))); have n2_ := Aside0.mk (below_step (by repeat (first | (with_reducible first | exact HB.out | apply below_alloc | apply pw_below_drewN | apply below_drew1) | exact HB.out)) hb); clear HO_5; clear HB; have HO_5 := n0_; have HO241 := n1_; have HB := n2_; clear n0_ n1_ n2_; (try clear hb); (try clear hb2); (try clear hk); (try clear hi); (try clear ho0); obtain ⟨Ao13, co13, eo13⟩ := Kd.R_slice HO241.out; subst eo13) | ((with_reducible refine gate_builtin (b := .append) (xs := #[.tmp 16, .tmp 21]) rfl ?_); at_builtin; refine Kd.R_append_rows (Kd.int .u8) (w0 := w) w.heap.size rfl (.tmp 16) (.tmp 21) 22 5 (.int .u8 0) 1 rfl Try.underlying22 info5 rfl (by decide) (by omega) u5 x5_1 t239 _ _ _ (fun k_ => some k_ ≠ (.slice Ao13 t239.length co13 : Value).ownBlock) (fun _ => False) rfl rfl ?aO ?aR (fun _ _ h => h) (fun _ h => h.elim) ?aF ?aB ?aS ?aL ?_; (case aR => repeat (first | exact (Kd.R_reads' HO241.out).2.2 | (with_reducible refine Kd.C_alloc ?_ _) | (with_reducible refine Kd.C_drewN ?_ _) | (with_reducible refine Kd.C_drew ?_))); (case aB => exact (by repeat (first | (with_reducible first | exact HB.out | apply below_alloc | apply pw_below_drewN | apply below_drew1) | exact HB.out))); (case aF => exact (fun k_ hk => Kd.fresh' (Kd.R_lt (by (with_reducible repeat (first | apply Kd.R_alloc | apply Kd.R_drewN | apply Kd.R_drew)); exact HO241.out)) k_ hk)); (case aO => exact (by (with_reducible repeat (first | apply Kd.R_alloc | apply Kd.R_drewN | apply Kd.R_drew)); exact Kd.R_mono HO_5.out (fun _ hk => hk.2))); (case aS => exact (below_size (by repeat (first | (with_reducible first | exact HB.out | apply below_alloc | apply pw_below_drewN | apply below_drew1) | exact HB.out)))); (case aL => have := LMc10.out; omega); intro v243 w12 ho hb hg hat; rw [← Ny242.out] at ho; have n0_ := Aside0.mk (Kd.R_after (ok := (fun _ => True)) (by (with_reducible repeat (first | apply Kd.R_alloc | apply Kd.R_drewN | apply Kd.R_drew)); exact HO241.out) hg hat); have n1_ := Aside0.mk (hb); have n2_ := Aside0.mk (ho); clear HO241; clear HB; clear HO_5; have HO241 := n0_; have HB := n1_; have HO244 := n2_; clear n0_ n1_ n2_; clear ho hb hg hat))
              go_roundg k1
              case measure => have := HK1.out; omega
              case rel => exact ⟨(y242), (wrap64 (x6_1 + 1)), (by first | rfl | (simp; done) | (simp [*]; done)), H', ⟨by have := HK1.out; omega⟩, ⟨by (with_reducible repeat (first | apply Kd.R_alloc | apply Kd.R_drewN | apply Kd.R_drew)); exact Kd.R_mono HO244.out (fun _ hk => trivial)⟩, ⟨by repeat (first | (with_reducible first | exact HB.out | apply below_alloc | apply pw_below_drewN | apply below_drew1) | exact HB.out)⟩⟩
            · rw [if_neg c10] at H
              exact absurd H (by simp)
          · rw [if_neg c8] at H
            exact absurd H (by simp)
        · rw [if_neg c7] at H
          have c7b0 : decide (x6_1 < (l1.length : Int)) = false := decide_eq_false c7
          clear c7
          obtain rfl := Option.some.inj H
          go_wp2
          go_ret
          exact ⟨_, by first | rfl | (simp [errW_none, errW_some] <;> rfl) | (simp [*, errW_none, errW_some] <;> rfl), by (with_reducible repeat (first | apply Kd.R_alloc | apply Kd.R_drewN | apply Kd.R_drew)); exact HO_5.out, by repeat (first | (with_reducible first | exact HB.out | apply below_alloc | apply pw_below_drewN | apply below_drew1) | exact HB.out)⟩
  · rw [if_neg c3] at H
    exact absurd H (by simp)

end Go.Proofs.Ytbphmpncajfaiaa.Py
-- PRINTED by print.py (a twelfth state) out of the translation. Not trusted: Lean checks it.
namespace Go.Proofs.Ytbphmpncajfaiaa.Py
open Go.RowKit Go.Proofs.YtbphmpncajfaiaaW.PrintWords Go.Proofs.YtbphmpncajfaiaaW.PrintLast Go.Proofs.YtbphmpncajfaiaaW.PrintMore
attribute [local go_sem] max2_int min2_int max_two min_two max_three min_three max_four min_four   -- for this text's walks alone
set_option linter.unusedVariables false
set_option linter.unusedSimpArgs false

/-! ### palimpsestref02_Row: function 21 -/
def palimpsestref02_Row.f (k : Nat) (l0 : List Int) : Option (List Int) := (palimpsestref02_Number.f k (l0.length : Int)).bind fun t226 => (if t226.length + l0.length < 140737488355328 then (some (t226 ++ l0)) else (none))
theorem palimpsestref02_Row.mono : ∀ a0 k, LeO (palimpsestref02_Row.f k a0) (palimpsestref02_Row.f (k + 1) a0) := by
  intro a0 k
  unfold palimpsestref02_Row.f
  repeat' first
      | (with_reducible exact palimpsestref02_Number.mono _ _)
      | (with_reducible exact LeO.refl _)
      | (with_reducible exact LeO.none _)
      | (with_reducible refine LeO.ite ?_ ?_)
      | (with_reducible refine LeO.bind ?_ (fun _ => ?_))
      | exact palimpsestref02_Number.mono _ _
      | exact LeO.none _
      | refine LeO.ite ?_ ?_
      | refine LeO.bind ?_ (fun _ => ?_)
set_option maxHeartbeats 8000000 in
set_option maxRecDepth 100000 in
theorem palimpsestref02_Row.calls (k : Nat) (A0 : Option Addr) (c0 : Nat) (l0 : List Int) (r : List Int) (w : World) (hr0 : Kd.C (Kd.int .u8) w A0 l0.length l0) (hc0 : l0.length ≤ c0) (h : palimpsestref02_Row.f k l0 = some r) :
    Calls Try.prog 21 #[.slice A0 l0.length c0] w fun e w' => ∃ v0_ : Value, e = .returned (v0_) ∧ Kd.R (Kd.int .u8) 5 w' w.heap.size (fun _ => True) v0_ r ∧ Below w.heap.size w w' := by
  have HR0 := Aside0.mk hr0
  have HC0 := Aside0.mk hc0
  clear hr0 hc0
  have HB := Aside0.mk (Below.refl w.heap.size w)
  have H : ((palimpsestref02_Number.f k (l0.length : Int)).bind fun t226 => (if t226.length + l0.length < 140737488355328 then (some (t226 ++ l0)) else (none))) = some r := h
  clear h
  replace H := Option.bind_eq_some_iff.mp H
  obtain ⟨t226, A20, H⟩ := H
  replace H : (if t226.length + l0.length < 140737488355328 then (some (t226 ++ l0)) else (none)) = some r := H
  have A2 := Aside0.mk A20
  clear A20
  by_cases c3 : t226.length + l0.length < 140737488355328
  · rw [if_pos c3] at H
    have LMc3 := Aside0.mk c3
    clear c3
    obtain ⟨y229, hy229⟩ : ∃ y_ : List Int, y_ = (t226 ++ l0) := ⟨_, rfl⟩
    replace H : (some y229) = some r := by first | (rw [hy229]; with_reducible exact H) | (have H2_ := (Option.bind_some _ _).symm.trans H; rw [hy229]; with_reducible exact H2_) | (have H2_ := (Option.bind_some _ _).symm.trans H; with_reducible exact H2_) | with_reducible exact H | (rw [hy229]; exact H) | exact H
    have Ny229 := Aside0.mk hy229
    clear hy229
    obtain rfl := Option.some.inj H
    go_enter Try.func21, Try.ntmps21
    go_wp2_with (first | ((with_reducible refine gate_callee (f := 51) rfl ?_); refine goesL_ (some 5) rfl rfl Try.func51 (by kernel_rfl) rfl #[.int .i64 (l0.length : Int)] rfl (by (try simp only [List.map_toArray, List.map_cons, List.map_nil]); first | done | rfl | (simp only [List.length_drop, List.length_take]; rfl)) ?_; (with_reducible refine (palimpsestref02_Number.calls k (l0.length : Int) t226 _ A2.out).mono ?_); rintro e w4 ⟨v227, rfl, ho0, hb⟩; refine ⟨_, rfl, ?_⟩; have n0_ := Aside0.mk (Kd.R_lower ho0 (below_size (by repeat (first | (with_reducible first | exact HB.out | apply below_alloc | apply pw_below_drewN | apply below_drew1) | exact HB.out)))); have n1_ := Aside0.mk (below_step (by repeat (first | (with_reducible first | exact HB.out | apply below_alloc | apply pw_below_drewN | apply below_drew1) | exact HB.out)) hb); clear HB; have HO228 := n0_; have HB := n1_; clear n0_ n1_; (try clear hb); (try clear hb2); (try clear hk); (try clear hi); (try clear ho0)) | ((with_reducible refine gate_builtin (b := .append) (xs := #[.tmp 5, .tmp 6]) rfl ?_); at_builtin; refine Kd.R_append_rows (Kd.int .u8) (w0 := w) w.heap.size rfl (.tmp 5) (.tmp 6) 22 5 (.int .u8 0) 1 rfl Try.underlying22 info5 rfl (by decide) (by omega) v227 t226 l0 _ _ _ (fun _ => True) (fun _ => False) rfl rfl ?aO ?aR (fun _ _ h => h) (fun _ h => h.elim) ?aF ?aB ?aS ?aL ?_; (case aR => repeat (first | exact (Kd.C_below HR0.out HB.out) | (with_reducible refine Kd.C_alloc ?_ _) | (with_reducible refine Kd.C_drewN ?_ _) | (with_reducible refine Kd.C_drew ?_))); (case aB => exact (by repeat (first | (with_reducible first | exact HB.out | apply below_alloc | apply pw_below_drewN | apply below_drew1) | exact HB.out))); (case aF => exact (fun _ _ => trivial)); (case aO => exact (by (with_reducible repeat (first | apply Kd.R_alloc | apply Kd.R_drewN | apply Kd.R_drew)); exact HO228.out)); (case aS => exact (below_size (by repeat (first | (with_reducible first | exact HB.out | apply below_alloc | apply pw_below_drewN | apply below_drew1) | exact HB.out)))); (case aL => have := LMc3.out; omega); intro v230 w5 ho hb hg hat; rw [← Ny229.out] at ho; have n0_ := Aside0.mk (hb); have n1_ := Aside0.mk (ho); clear HB; clear HO228; have HB := n0_; have HO231 := n1_; clear n0_ n1_; clear ho hb hg hat))
    go_ret
    exact ⟨_, by first | rfl | (simp [errW_none, errW_some] <;> rfl) | (simp [*, errW_none, errW_some] <;> rfl), by (with_reducible repeat (first | apply Kd.R_alloc | apply Kd.R_drewN | apply Kd.R_drew)); exact HO231.out, by repeat (first | (with_reducible first | exact HB.out | apply below_alloc | apply pw_below_drewN | apply below_drew1) | exact HB.out)⟩
  · rw [if_neg c3] at H
    exact absurd H (by simp)

end Go.Proofs.Ytbphmpncajfaiaa.Py
