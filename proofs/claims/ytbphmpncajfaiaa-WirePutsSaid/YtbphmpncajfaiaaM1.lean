/- Plain: CRC-32 as a fold over whole numbers, and that both texts come to it. -/
import Derived.Test.YtbphmpncajfaiaaPyx5
import Derived.Test.YtbphmpncajfaiaaPyx10
import Derived.Laws.Bits64
import Derived.Laws.Bits64b
import Derived.Laws.Bits128
namespace Go.Proofs.Ytbphmpncajfaiaa.M
open Go.RowKit Go.Proofs.Ytbphmpncajfaiaa.Py Go.Proofs.YtbphmpncajfaiaaW.PrintWords Go.Proofs.YtbphmpncajfaiaaW.PrintLast Go.Proofs.YtbphmpncajfaiaaW.PrintMore
set_option linter.unusedVariables false
set_option linter.unusedSimpArgs false
/-- All are bytes. -/
def Bytes (l : List Int) : Prop := ∀ x ∈ l, 0 ≤ x ∧ x < 256
theorem Bytes.nil : Bytes [] := fun _ h => by cases h
theorem Bytes.append {l m : List Int} (h : Bytes l) (k : Bytes m) : Bytes (l ++ m) := fun x hx => by
  rcases List.mem_append.1 hx with h1 | h1
  · exact h x h1
  · exact k x h1
theorem Bytes.left {l m : List Int} (h : Bytes (l ++ m)) : Bytes l := fun x hx => h x (List.mem_append_left _ hx)
theorem Bytes.right {l m : List Int} (h : Bytes (l ++ m)) : Bytes m := fun x hx => h x (List.mem_append_right _ hx)
theorem Bytes.drop {l : List Int} (h : Bytes l) (n : Nat) : Bytes (l.drop n) := fun x hx => h x (List.mem_of_mem_drop hx)
theorem Bytes.take {l : List Int} (h : Bytes l) (n : Nat) : Bytes (l.take n) := fun x hx => h x (List.mem_of_mem_take hx)
theorem rd_bytes {l : List Int} (h : Bytes l) (i : Int) (h1 : i.toNat < l.length) : 0 ≤ rd l i ∧ rd l i < 256 := by
  unfold rd
  rw [List.getD_eq_getElem?_getD, List.getElem?_eq_getElem h1]
  exact h _ (List.getElem_mem h1)
theorem Bytes.replicate (n : Nat) : Bytes (List.replicate n 0) := fun x hx => by
  rw [(List.mem_replicate.1 hx).2]
  omega
theorem rd_cons {x : Int} {l m : List Int} : rd (m ++ x :: l) (m.length : Int) = x := by
  unfold rd
  simp

theorem bits_xor_u32_nat (a b : Nat) (ha : a < 4294967296) (hb : b < 4294967296) : bits .xor .u32 (a : Int) (b : Int) = ((a ^^^ b : Nat) : Int) := by
  have ha' : a % 2 ^ IntKind.u32.bits = a := Nat.mod_eq_of_lt (by simpa [IntKind.bits] using ha)
  have hb' : b % 2 ^ IntKind.u32.bits = b := Nat.mod_eq_of_lt (by simpa [IntKind.bits] using hb)
  have hx : a ^^^ b < 4294967296 := Nat.xor_lt_two_pow (n := 32) ha hb
  simp only [bits, BitVec.ofInt_natCast, BitVec.toNat_xor, BitVec.toNat_ofNat, ha', hb']
  rw [IntKind.wrap_u32]
  omega
theorem bits_and1_u32 (a : Nat) (ha : a < 4294967296) : bits .and .u32 (a : Int) 1 = ((a % 2 : Nat) : Int) := by
  have := bits_mask .u32 32 (by decide) (fun n h0 h1 => by rw [IntKind.wrap_u32]; omega) 1 (by decide) (a : Int) (by omega) (by omega)
  simpa using this

/-- One step of the register. -/
def cst (r : Nat) : Nat := if r % 2 = 1 then (r / 2) ^^^ 3988292384 else r / 2
def csts : Nat → Nat → Nat
  | 0, r => r
  | n + 1, r => csts n (cst r)
def cby (r b : Nat) : Nat := csts 8 (r ^^^ b)
def crcs (r : Nat) : List Int → Nat
  | [] => r
  | b :: l => crcs (cby r b.toNat) l
/-- CRC-32. -/
def crc (l : List Int) : Int := ((4294967295 ^^^ crcs 4294967295 l : Nat) : Int)
theorem cst_lt {r : Nat} (h : r < 4294967296) : cst r < 4294967296 := by
  unfold cst
  split
  · exact Nat.xor_lt_two_pow (n := 32) (by omega) (by decide)
  · omega
theorem csts_lt : ∀ (n : Nat) {r : Nat}, r < 4294967296 → csts n r < 4294967296
  | 0, _, h => h
  | n + 1, _, h => csts_lt n (cst_lt h)
theorem cby_lt {r b : Nat} (h : r < 4294967296) (hb : b < 256) : cby r b < 4294967296 := csts_lt 8 (Nat.xor_lt_two_pow (n := 32) h (by omega))
theorem crcs_lt : ∀ (l : List Int) {r : Nat}, Bytes l → r < 4294967296 → crcs r l < 4294967296
  | [], _, _, h => h
  | b :: l, r, hb, h => crcs_lt l (fun x hx => hb x (List.mem_cons_of_mem _ hx)) (cby_lt h (by have := hb b List.mem_cons_self; omega))
theorem crcs_append (l m : List Int) (r : Nat) : crcs r (l ++ m) = crcs (crcs r l) m := by
  induction l generalizing r with
  | nil => rfl
  | cons b l ih => exact ih _
theorem crc_range {l : List Int} (h : Bytes l) : 0 ≤ crc l ∧ crc l < 4294967296 := by
  have := Nat.xor_lt_two_pow (n := 32) (show 4294967295 < 2 ^ 32 by decide) (crcs_lt l h (by decide : 4294967295 < 4294967296))
  unfold crc
  omega

theorem w1 {x : Int} (h0 : 0 ≤ x) (h1 : x < 140737488355328) : wrap64 (x + 1) = x + 1 := by unfold wrap64; omega

/-! #### the document's text -/
theorem ref_l1 (x : List Int) (i : Int) : ∀ (n : Nat) (r : Nat) (j : Int) (k : Nat), r < 4294967296 → j = 8 - (n : Int) → n ≤ 8 → palimpsestref02_Check.l1 (n + 1 + k) x r i j = palimpsestref02_Check.l0 k x (csts n r : Nat) (wrap64 (i + 1))
  | 0, r, j, k, hr, hj, hn => by
    rw [show 0 + 1 + k = k + 1 by omega]
    simp only [palimpsestref02_Check.l1]
    rw [if_neg (by omega)]
    rfl
  | n + 1, r, j, k, hr, hj, hn => by
    rw [show n + 1 + 1 + k = (n + 1 + k) + 1 by omega]
    simp only [palimpsestref02_Check.l1]
    rw [if_pos (by omega)]
    have hm : Int.tmod (r : Int) 2 = ((r % 2 : Nat) : Int) := by rw [Int.tmod_eq_emod_of_nonneg (by omega)]; omega
    have hd : Int.tdiv (r : Int) 2 % 4294967296 = ((r / 2 : Nat) : Int) := by rw [Int.tdiv_eq_ediv_of_nonneg (by omega)]; omega
    rw [hm, hd]
    have e : wrap64 (j + 1) = j + 1 := by unfold wrap64; omega
    rw [e]
    by_cases h : r % 2 = 1
    · rw [if_pos (by omega)]
      rw [show (3988292384 : Int) = ((3988292384 : Nat) : Int) from rfl, bits_xor_u32_nat _ _ (by omega) (by decide)]
      have hc : cst r = (r / 2) ^^^ 3988292384 := by unfold cst; rw [if_pos h]
      rw [← hc, ref_l1 x i n (cst r) (j + 1) k (cst_lt hr) (by omega) (by omega)]
      rfl
    · rw [if_neg (by omega)]
      have hc : cst r = r / 2 := by unfold cst; rw [if_neg h]
      rw [← hc, ref_l1 x i n (cst r) (j + 1) k (cst_lt hr) (by omega) (by omega)]
      rfl
theorem ref_l0 (hs : Nat) : ∀ (l m : List Int) (r : Nat) (k : Nat), r < 4294967296 → Bytes l → (m ++ l).length ≤ 140737488355328 → 10 * l.length + 1 ≤ k → palimpsestref02_Check.l0 k (m ++ l) r (m.length : Int) = some ((4294967295 ^^^ crcs r l : Nat) : Int)
  | [], m, r, k, hr, hb, hl, hk => by
    obtain ⟨k, rfl⟩ : ∃ j, k = j + 1 := ⟨k - 1, by omega⟩
    simp only [palimpsestref02_Check.l0]
    rw [if_neg (by simp)]
    rw [show (4294967295 : Int) = ((4294967295 : Nat) : Int) from rfl, bits_xor_u32_nat _ _ hr (by decide), Nat.xor_comm]
    rfl
  | b :: l, m, r, k, hr, hb, hl, hk => by
    have hb1 := hb b List.mem_cons_self
    rw [List.length_cons] at hk
    rw [List.length_append, List.length_cons] at hl
    obtain ⟨k, rfl⟩ : ∃ j, k = (8 + 1 + j) + 1 := ⟨k - 10, by omega⟩
    obtain ⟨n, rfl⟩ := Int.eq_ofNat_of_zero_le hb1.1
    simp only [palimpsestref02_Check.l0]
    rw [if_pos (by simp; omega), if_pos (by omega), rd_cons]
    have hx : ((n : Int) % 4294967296) = ((n : Nat) : Int) := by omega
    rw [hx, bits_xor_u32_nat _ _ hr (by omega), ref_l1 _ _ 8 _ 0 k (Nat.xor_lt_two_pow (n := 32) hr (by omega)) (by omega) (by omega)]
    rw [w1 (by omega) (by omega)]
    have := ref_l0 hs l (m ++ [(n : Int)]) (cby r n) k (cby_lt hr (by omega)) (fun x hx => hb x (List.mem_cons_of_mem _ hx)) (by simp; omega) (by omega)
    simp only [List.append_assoc, List.cons_append, List.nil_append, List.length_append, List.length_cons, List.length_nil] at this
    have e : ((m.length + (0 + 1) : Nat) : Int) = (m.length : Int) + 1 := by omega
    rw [e] at this
    exact this
theorem ref_check {l : List Int} (hb : Bytes l) (hl : l.length ≤ 140737488355328) : ∀ k, 10 * l.length + 1 ≤ k → palimpsestref02_Check.f k l = some (crc l) := by
  intro k hk
  have := ref_l0 0 l [] 4294967295 k (by decide) hb (by simpa using hl) hk
  simpa [palimpsestref02_Check.f, crc] using this

/-! #### the program's text -/
theorem wire_l2 (ls : List (List Int)) (x10 x11 : Int) (x : List Int) (x16 i : Int) : ∀ (n : Nat) (r : Nat) (j : Int) (k : Nat), r < 4294967296 → j = 8 - (n : Int) → n ≤ 8 → wire_Check.l2 (n + 1 + k) r ls x10 x11 x x16 i j = wire_Check.l1 k (csts n r : Nat) ls x10 x11 x x16 (wrap64 (i + 1))
  | 0, r, j, k, hr, hj, hn => by
    rw [show 0 + 1 + k = k + 1 by omega]
    simp only [wire_Check.l2]
    rw [if_neg (by omega)]
    rfl
  | n + 1, r, j, k, hr, hj, hn => by
    rw [show n + 1 + 1 + k = (n + 1 + k) + 1 by omega]
    simp only [wire_Check.l2]
    rw [if_pos (by omega), bits_and1_u32 r hr]
    have hd : (r : Int) / 2 = ((r / 2 : Nat) : Int) := by omega
    rw [hd]
    have e : wrap64 (j + 1) = j + 1 := by unfold wrap64; omega
    rw [e]
    by_cases h : r % 2 = 1
    · rw [if_pos (by omega)]
      rw [show (3988292384 : Int) = ((3988292384 : Nat) : Int) from rfl, bits_xor_u32_nat _ _ (by omega) (by decide)]
      have hc : cst r = (r / 2) ^^^ 3988292384 := by unfold cst; rw [if_pos h]
      rw [← hc, wire_l2 ls x10 x11 x x16 i n (cst r) (j + 1) k (cst_lt hr) (by omega) (by omega)]
      rfl
    · rw [if_neg (by omega)]
      have hc : cst r = r / 2 := by unfold cst; rw [if_neg h]
      rw [← hc, wire_l2 ls x10 x11 x x16 i n (cst r) (j + 1) k (cst_lt hr) (by omega) (by omega)]
      rfl
theorem wire_l1 (ls : List (List Int)) (x10 x11 : Int) : ∀ (l m : List Int) (r : Nat) (k : Nat), r < 4294967296 → Bytes l → (m ++ l).length ≤ 140737488355328 → wire_Check.l1 (10 * l.length + 1 + k) r ls x10 x11 (m ++ l) ((m ++ l).length : Int) (m.length : Int) = wire_Check.l0 k (crcs r l : Nat) ls x10 (wrap64 (x11 + 1))
  | [], m, r, k, hr, hb, hl => by
    rw [List.length_nil, show 10 * 0 + 1 + k = k + 1 by omega]
    simp only [wire_Check.l1]
    rw [if_neg (by simp)]
    rfl
  | b :: l, m, r, k, hr, hb, hl => by
    have hb1 := hb b List.mem_cons_self
    have hl' := hl
    rw [List.length_append, List.length_cons] at hl'
    rw [List.length_cons, show 10 * (l.length + 1) + 1 + k = (8 + 1 + (10 * l.length + 1 + k)) + 1 by omega]
    obtain ⟨n, rfl⟩ := Int.eq_ofNat_of_zero_le hb1.1
    simp only [wire_Check.l1]
    rw [if_pos (by simp; omega), if_pos (by omega), if_pos (by simp; omega), rd_cons]
    have hx : ((n : Int) % 4294967296) = ((n : Nat) : Int) := by omega
    rw [hx, bits_xor_u32_nat _ _ hr (by omega), wire_l2 _ _ _ _ _ _ 8 _ 0 _ (Nat.xor_lt_two_pow (n := 32) hr (by omega)) (by omega) (by omega)]
    rw [w1 (by omega) (by omega)]
    have := wire_l1 ls x10 x11 l (m ++ [(n : Int)]) (cby r n) k (cby_lt hr (by omega)) (fun x hx => hb x (List.mem_cons_of_mem _ hx)) (by simp; omega)
    simp only [List.append_assoc, List.cons_append, List.nil_append, List.length_append, List.length_cons, List.length_nil] at this ⊢
    have e : ((m.length + (0 + 1) : Nat) : Int) = (m.length : Int) + 1 := by omega
    rw [e] at this
    exact this
theorem rd2_cons {x : List Int} {l m : List (List Int)} : rd_L2 (m ++ x :: l) (m.length : Int) = x := by
  unfold rd_L2
  simp
/-- How many rounds. -/
def wrounds : List (List Int) → Nat
  | [] => 1
  | l :: ls => 10 * l.length + 2 + wrounds ls
theorem wire_l0 : ∀ (ls ms : List (List Int)) (r : Nat) (k : Nat), r < 4294967296 → (∀ l ∈ ls, Bytes l ∧ l.length ≤ 140737488355328) → (ms ++ ls).length ≤ 140737488355328 → wrounds ls ≤ k → wire_Check.l0 k r (ms ++ ls) ((ms ++ ls).length : Int) (ms.length : Int) = some ((4294967295 ^^^ crcs r ls.flatten : Nat) : Int)
  | [], ms, r, k, hr, hb, hl, hk => by
    unfold wrounds at hk
    obtain ⟨k, rfl⟩ : ∃ j, k = j + 1 := ⟨k - 1, by omega⟩
    simp only [wire_Check.l0]
    rw [if_neg (by simp)]
    rw [show (4294967295 : Int) = ((4294967295 : Nat) : Int) from rfl, bits_xor_u32_nat _ _ (by decide) hr]
    rfl
  | l :: ls, ms, r, k, hr, hb, hl, hk => by
    have h1 := hb l List.mem_cons_self
    unfold wrounds at hk
    have hl' := hl
    rw [List.length_append, List.length_cons] at hl'
    obtain ⟨k, rfl⟩ : ∃ j, k = (10 * l.length + 1 + j) + 1 := ⟨k - (10 * l.length + 2), by omega⟩
    simp only [wire_Check.l0]
    rw [if_pos (by simp; omega), if_pos (by omega), if_pos (by simp; omega), rd2_cons]
    have := wire_l1 (ms ++ l :: ls) ((ms ++ l :: ls).length : Int) (ms.length : Int) l [] r k hr h1.1 (by simpa using h1.2)
    simp only [List.nil_append, List.length_nil] at this
    rw [show ((0 : Nat) : Int) = 0 from rfl] at this
    rw [this, w1 (by omega) (by omega)]
    have h2 := wire_l0 ls (ms ++ [l]) (crcs r l) k (crcs_lt l h1.1 hr) (fun x hx => hb x (List.mem_cons_of_mem _ hx)) (by simp; omega) (by omega)
    simp only [List.append_assoc, List.cons_append, List.nil_append, List.length_append, List.length_cons, List.length_nil, List.flatten_cons, crcs_append] at h2 ⊢
    have e : ((ms.length + (0 + 1) : Nat) : Int) = (ms.length : Int) + 1 := by omega
    rw [e] at h2
    exact h2
theorem wire_check {ls : List (List Int)} (hb : ∀ l ∈ ls, Bytes l ∧ l.length ≤ 140737488355328) (hl : ls.length ≤ 140737488355328) : ∀ k, wrounds ls ≤ k → wire_Check.f k ls = some (crc ls.flatten) := by
  intro k hk
  have := wire_l0 ls [] 4294967295 k (by decide) hb (by simpa using hl) hk
  simpa [wire_Check.f, crc] using this
end Go.Proofs.Ytbphmpncajfaiaa.M
