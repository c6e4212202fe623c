/- Joined: M9, M10, K26, K27, K28, K29, K2, K30, K22, K48, K12, K39, M11, K43, K42, M12, K45, K46 -/
import Derived.Test.YtbphmpncajfaiaaJPageForms1
import Derived.LaidEql
import Derived.Below
import Derived.Orders
import Derived.OrdersHeld
import Derived.WalkKit
/- Joined by merge.py of: YtbphmpncajfaiaaM6, YtbphmpncajfaiaaM7, YtbphmpncajfaiaaM8 -/
/- Plain: numbers' bytes, written and taken. -/
namespace Go.Proofs.Ytbphmpncajfaiaa.M
open Go.RowKit Go.Proofs.Ytbphmpncajfaiaa.Py Go.Proofs.YtbphmpncajfaiaaW.PrintWords
set_option linter.unusedVariables false
set_option linter.unusedSimpArgs false
def I64 (x : Int) : Prop := -9223372036854775808 ≤ x ∧ x ≤ 9223372036854775807
/-- Seven bits a byte, the lowest first. -/
def enc (u : Nat) : List Int := if u < 128 then [(u : Int)] else ((u % 128 + 128 : Nat) : Int) :: enc (u / 128)
termination_by u
decreasing_by omega
theorem enc_small {u : Nat} (h : u < 128) : enc u = [(u : Int)] := by rw [enc, if_pos h]
theorem enc_big {u : Nat} (h : 128 ≤ u) : enc u = ((u % 128 + 128 : Nat) : Int) :: enc (u / 128) := by rw [enc, if_neg (by omega)]
def zig (n : Int) : Nat := if 0 ≤ n then (2 * n).toNat else (-2 * n - 1).toNat
def zag (u : Nat) : Int := if u % 2 = 0 then ((u / 2 : Nat) : Int) else -((u / 2 : Nat) : Int) - 1
theorem zag_zig (n : Int) : zag (zig n) = n := by
  unfold zag zig
  split <;> split <;> omega
theorem zig_zag (u : Nat) : zig (zag u) = u := by
  unfold zag zig
  split <;> split <;> omega
theorem zig_lt {n : Int} (h : I64 n) : zig n < 18446744073709551616 := by
  unfold I64 at h
  unfold zig
  split <;> omega
theorem zag_i64 {u : Nat} (h : u < 18446744073709551616) : I64 (zag u) := by
  unfold I64 zag
  split <;> omega
def num (n : Int) : List Int := enc (zig n)
def nums (l : List Int) : List Int := (l.map num).flatten
theorem enc_bytes : ∀ (n : Nat) (u : Nat), u ≤ n → Bytes (enc u) := by
  intro n
  induction n with
  | zero =>
    intro u h
    rw [enc_small (by omega)]
    intro x hx
    rw [List.mem_singleton] at hx
    omega
  | succ n ih =>
    intro u h
    by_cases h1 : u < 128
    · rw [enc_small h1]
      intro x hx
      rw [List.mem_singleton] at hx
      omega
    · rw [enc_big (by omega)]
      intro x hx
      rcases List.mem_cons.1 hx with h2 | h2
      · omega
      · exact ih (u / 128) (by omega) x h2
theorem num_bytes (n : Int) : Bytes (num n) := enc_bytes _ _ (Nat.le_refl _)
theorem enc_pos (u : Nat) : 0 < (enc u).length := by
  by_cases h : u < 128
  · rw [enc_small h]; simp
  · rw [enc_big (by omega)]; simp
theorem enc_le : ∀ (k u : Nat), u < 128 ^ (k + 1) → (enc u).length ≤ k + 1
  | 0, u, h => by rw [enc_small (by simpa using h)]; simp
  | k + 1, u, h => by
    by_cases h1 : u < 128
    · rw [enc_small h1]; simp
    · rw [enc_big (by omega), List.length_cons]
      have := enc_le k (u / 128) (by rw [Nat.pow_succ] at h; omega)
      omega
theorem num_le {n : Int} (h : I64 n) : (num n).length ≤ 10 := enc_le 9 _ (Nat.lt_of_lt_of_le (zig_lt h) (by decide))
theorem num_one (n : Int) : (num n).length = 1 ↔ -64 ≤ n ∧ n < 64 := by
  unfold num
  by_cases h : zig n < 128
  · rw [enc_small h]
    unfold zig at h
    split at h <;> simp <;> omega
  · rw [enc_big (by omega)]
    have := enc_pos (zig n / 128)
    unfold zig at h
    rw [List.length_cons]
    split at h <;> omega
theorem nums_bytes (l : List Int) : Bytes (nums l) := fun x hx => by
  obtain ⟨m, hm, hx⟩ := List.mem_flatten.1 hx
  obtain ⟨n, _, rfl⟩ := List.mem_map.1 hm
  exact num_bytes n x hx
theorem nums_len {l : List Int} (h : ∀ x ∈ l, I64 x) : (nums l).length ≤ 10 * l.length := by
  induction l with
  | nil => simp [nums]
  | cons n l ih =>
    have h1 := num_le (h n List.mem_cons_self)
    have h2 := ih (fun x hx => h x (List.mem_cons_of_mem _ hx))
    unfold nums at h2 ⊢
    rw [List.map_cons, List.flatten_cons, List.length_append, List.length_cons]
    omega

/-! #### bits -/
theorem or_u8_128 {x : Int} (h0 : 0 ≤ x) (h1 : x < 256) : bits .or .u8 x 128 = x % 128 + 128 := by
  obtain ⟨a, rfl⟩ := Int.eq_ofNat_of_zero_le h0
  rw [show (128 : Int) = ((128 : Nat) : Int) from rfl, (bits_nat .u8 8 (by decide) wraps_u8 a 128 (by omega) (by decide)).2]
  have h : ∀ a : Fin 256, (a.val ||| 128) = a.val % 128 + 128 := by decide +kernel
  have := h ⟨a, by omega⟩
  simp only at this
  rw [this]
  omega
theorem xor_ones_u64 {a : Int} (h0 : 0 ≤ a) (h1 : a < 18446744073709551616) : bits .xor .u64 a 18446744073709551615 = 18446744073709551615 - a := by
  obtain ⟨x, rfl⟩ := Int.eq_ofNat_of_zero_le h0
  have e : BitVec.ofInt 64 18446744073709551615 = BitVec.allOnes 64 := by decide
  have hx : (BitVec.ofInt 64 (x : Int)).toNat = x := by rw [BitVec.ofInt_natCast, BitVec.toNat_ofNat]; exact Nat.mod_eq_of_lt (by omega)
  show IntKind.u64.wrap ((BitVec.ofInt 64 (x : Int) ^^^ BitVec.ofInt 64 18446744073709551615).toNat : Int) = _
  rw [e, BitVec.xor_allOnes, BitVec.toNat_not, hx, IntKind.wrap_u64]
  omega
theorem xor_zero_u64 {a : Int} (h0 : 0 ≤ a) (h1 : a < 18446744073709551616) : bits .xor .u64 a 0 = a := by
  obtain ⟨x, rfl⟩ := Int.eq_ofNat_of_zero_le h0
  rw [show (0 : Int) = ((0 : Nat) : Int) from rfl, bits_xor_u64_nat x 0 (by omega) (by decide), Nat.xor_zero]
theorem xor_zero_i64 {a : Int} (h0 : 0 ≤ a) (h1 : a < 9223372036854775808) : bits .xor .i64 a 0 = a := by
  obtain ⟨x, rfl⟩ := Int.eq_ofNat_of_zero_le h0
  have hx : (BitVec.ofInt 64 (x : Int)).toNat = x := by rw [BitVec.ofInt_natCast, BitVec.toNat_ofNat]; exact Nat.mod_eq_of_lt (by omega)
  show IntKind.i64.wrap ((BitVec.ofInt 64 (x : Int) ^^^ BitVec.ofInt 64 0).toNat : Int) = _
  rw [show BitVec.ofInt 64 0 = 0#64 by decide, BitVec.xor_zero, hx, IntKind.wrap_i64]
  omega
theorem xor_ones_i64 {a : Int} (h0 : 0 ≤ a) (h1 : a < 9223372036854775808) : bits .xor .i64 a (-1) = -a - 1 := by
  obtain ⟨x, rfl⟩ := Int.eq_ofNat_of_zero_le h0
  have e : BitVec.ofInt 64 (-1) = BitVec.allOnes 64 := by decide
  have hx : (BitVec.ofInt 64 (x : Int)).toNat = x := by rw [BitVec.ofInt_natCast, BitVec.toNat_ofNat]; exact Nat.mod_eq_of_lt (by omega)
  show IntKind.i64.wrap ((BitVec.ofInt 64 (x : Int) ^^^ BitVec.ofInt 64 (-1)).toNat : Int) = _
  rw [e, BitVec.xor_allOnes, BitVec.toNat_not, hx, IntKind.wrap_i64]
  omega
theorem and_one_u64 (u : Nat) (h : u < 18446744073709551616) : bits .and .u64 (u : Int) 1 = ((u % 2 : Nat) : Int) := by
  have := bits_mask .u64 64 (by decide) (fun n h0 h1 => by rw [IntKind.wrap_u64]; omega) 1 (by decide) (u : Int) (by omega) (by omega)
  simpa using this
theorem zag_bits (u : Nat) (h : u < 18446744073709551616) : bits .xor .i64 (wrap64 ((u : Int) / 2)) (wrap64 (-(wrap64 (bits .and .u64 (u : Int) 1)))) = zag u := by
  rw [and_one_u64 u h]
  have e1 : wrap64 ((u : Int) / 2) = ((u / 2 : Nat) : Int) := by unfold wrap64; omega
  rw [e1]
  by_cases h2 : u % 2 = 0
  · rw [h2]
    have e2 : wrap64 (-(wrap64 ((0 : Nat) : Int))) = 0 := by unfold wrap64; omega
    rw [e2, xor_zero_i64 (by omega) (by omega)]
    unfold zag
    rw [if_pos h2]
  · have h3 : u % 2 = 1 := by omega
    rw [h3]
    have e2 : wrap64 (-(wrap64 ((1 : Nat) : Int))) = -1 := by unfold wrap64; omega
    rw [e2, xor_ones_i64 (by omega) (by omega)]
    unfold zag
    rw [if_neg h2]
theorem or_shift {v c i : Nat} (hv : v < 128 ^ i) (hi : i ≤ 9) (hc : c < 256) (h9 : i = 9 → c ≤ 1) :
    bits .or .u64 (v : Int) (shl .u64 (IntKind.u64.wrap (bits .and .u8 (c : Int) 127)) (wrap64 (7 * (i : Int)))) = ((v + c % 128 * 128 ^ i : Nat) : Int) ∧ v + c % 128 * 128 ^ i < 18446744073709551616 := by
  have e1 : bits .and .u8 (c : Int) 127 = ((c % 128 : Nat) : Int) := by
    have := bits_mask .u8 8 (by decide) wraps_u8 7 (by decide) (c : Int) (by omega) (by omega)
    simpa using this
  have hp : (2 : Nat) ^ (7 * i) = 128 ^ i := by rw [Nat.pow_mul]
  have hle : (128 : Nat) ^ i ≤ 128 ^ 9 := Nat.pow_le_pow_right (by decide) hi
  have hle8 : i ≠ 9 → (128 : Nat) ^ i ≤ 128 ^ 8 := fun h => Nat.pow_le_pow_right (by decide) (by omega)
  have hpos : 0 < (128 : Nat) ^ i := Nat.pow_pos (by decide)
  have e9 : (128 : Nat) ^ 9 = 9223372036854775808 := by decide
  have e8 : (128 : Nat) ^ 8 = 72057594037927936 := by decide
  have hb : c % 128 * 128 ^ i ≤ 9223372036854775808 := by
    by_cases h : i = 9
    · have := h9 h
      have h4 : c % 128 ≤ 1 := by omega
      calc c % 128 * 128 ^ i ≤ 1 * 128 ^ i := Nat.mul_le_mul_right _ h4
        _ ≤ _ := by omega
    · have h4 : c % 128 ≤ 127 := by omega
      calc c % 128 * 128 ^ i ≤ 127 * 128 ^ i := Nat.mul_le_mul_right _ h4
        _ ≤ _ := by have := hle8 h; omega
  have e2 : IntKind.u64.wrap ((c % 128 : Nat) : Int) = ((c % 128 : Nat) : Int) := by rw [IntKind.wrap_u64]; omega
  have e3 : wrap64 (7 * (i : Int)) = ((7 * i : Nat) : Int) := by unfold wrap64; omega
  rw [e1, e2, e3]
  have e4 : shl .u64 ((c % 128 : Nat) : Int) ((7 * i : Nat) : Int) = ((c % 128 * 128 ^ i : Nat) : Int) := by
    unfold shl
    rw [Int.toNat_natCast, show IntKind.u64.bits = 64 from rfl, Nat.min_eq_left (by omega), ← hp, IntKind.wrap_u64]
    have h5 : (((c % 128 : Nat) : Int) * 2 ^ (7 * i)) = ((c % 128 * 2 ^ (7 * i) : Nat) : Int) := by rw [Int.natCast_mul, Int.natCast_pow]; rfl
    rw [h5]
    rw [← hp] at hb
    omega
  rw [e4]
  have hsum : v + c % 128 * 128 ^ i < 18446744073709551616 := by omega
  refine ⟨?_, hsum⟩
  have hcm : bits .or .u64 (v : Int) ((c % 128 * 128 ^ i : Nat) : Int) = bits .or .u64 ((c % 128 * 128 ^ i : Nat) : Int) (v : Int) := by simp only [bits, BitVec.or_comm]
  have hpi : ((2 : Int) ^ (7 * i)) = ((128 ^ i : Nat) : Int) := by rw [← hp, Int.natCast_pow]; rfl
  rw [hcm, bits_join .u64 64 (by decide) (fun n h0 h1 => by rw [IntKind.wrap_u64]; omega) (7 * i) _ _ (by omega) (by rw [hpi, ← Int.natCast_emod, Nat.mul_mod_left]; rfl) (by omega) (by omega) (by rw [hpi]; omega) (by omega)]
  omega

/-! #### put -/
theorem turned_f {n : Int} (h : I64 n) : wire_turned.f n = some ((zig n : Nat) : Int) := by
  unfold I64 at h
  unfold wire_turned.f
  congr 1
  by_cases h0 : 0 ≤ n
  · have e1 : IntKind.u64.wrap (IntKind.u64.wrap n * 2) = 2 * n := by rw [IntKind.wrap_u64, IntKind.wrap_u64]; omega
    have e2 : IntKind.u64.wrap (n / 9223372036854775808) = 0 := by rw [IntKind.wrap_u64]; omega
    rw [e1, e2, xor_zero_u64 (by omega) (by omega)]
    unfold zig
    rw [if_pos h0]
    omega
  · have e1 : IntKind.u64.wrap (IntKind.u64.wrap n * 2) = 2 * n + 18446744073709551616 := by rw [IntKind.wrap_u64, IntKind.wrap_u64]; omega
    have e2 : IntKind.u64.wrap (n / 9223372036854775808) = 18446744073709551615 := by rw [IntKind.wrap_u64]; omega
    rw [e1, e2, xor_ones_u64 (by omega) (by omega)]
    unfold zig
    rw [if_neg h0]
    omega
theorem put_l1 (x8 : List Int) (x9 x10 : Int) : ∀ (n : Nat) (u : Nat), u ≤ n → u < 18446744073709551616 → ∀ (acc : List Int) (k : Nat), acc.length + (enc u).length ≤ 140737488355328 → wire_put.l1 ((enc u).length + k) acc (u : Int) x8 x9 x10 = wire_put.l0 k (acc ++ enc u) x8 x9 (wrap64 (x10 + 1)) := by
  intro n
  induction n with
  | zero =>
    intro u hu hlt acc k hl
    rw [enc_small (show u < 128 by omega)] at hl ⊢
    rw [show [(u : Int)].length + k = k + 1 by simp; omega]
    simp only [wire_put.l1]
    rw [if_neg (by omega), if_pos (by simp at hl; omega)]
    have e : (u : Int) % 256 = u := by omega
    rw [e]
  | succ n ih =>
    intro u hu hlt acc k hl
    by_cases h : u < 128
    · rw [enc_small h] at hl ⊢
      rw [show [(u : Int)].length + k = k + 1 by simp; omega]
      simp only [wire_put.l1]
      rw [if_neg (by omega), if_pos (by simp at hl; omega)]
      have e : (u : Int) % 256 = u := by omega
      rw [e]
    · rw [enc_big (by omega)] at hl ⊢
      rw [List.length_cons] at hl ⊢
      rw [show (enc (u / 128)).length + 1 + k = ((enc (u / 128)).length + k) + 1 by omega]
      simp only [wire_put.l1]
      rw [if_pos (by omega), if_pos (by omega), or_u8_128 (by omega) (by omega)]
      have e1 : (u : Int) % 256 % 128 + 128 = ((u % 128 + 128 : Nat) : Int) := by omega
      have e2 : (u : Int) / 128 = ((u / 128 : Nat) : Int) := by omega
      rw [e1, e2, ih (u / 128) (by omega) (by omega) _ k (by simp; omega), List.append_assoc]
      rfl
theorem put_l0 : ∀ (l m acc : List Int) (k : Nat), (∀ x ∈ l, I64 x) → acc.length + 10 * l.length ≤ 140737488355000 → (m ++ l).length ≤ 140737488355000 → 11 * l.length + 1 ≤ k → wire_put.l0 k acc (m ++ l) ((m ++ l).length : Int) (m.length : Int) = some (acc ++ nums l)
  | [], m, acc, k, hI, ha, hl, hk => by
    obtain ⟨k, rfl⟩ : ∃ j, k = j + 1 := ⟨k - 1, by omega⟩
    simp only [wire_put.l0]
    rw [if_neg (by simp)]
    simp [nums]
  | n :: l, m, acc, k, hI, ha, hl, hk => by
    have hn := hI n List.mem_cons_self
    have hle := num_le hn
    have hp := enc_pos (zig n)
    have hl' := hl
    rw [List.length_cons] at ha hk
    rw [List.length_append, List.length_cons] at hl'
    unfold num at hle
    obtain ⟨k, rfl⟩ : ∃ j, k = ((enc (zig n)).length + j) + 1 := ⟨k - 1 - (enc (zig n)).length, by omega⟩
    simp only [wire_put.l0]
    rw [if_pos (by simp; omega), if_pos (by omega), if_pos (by simp; omega), rd_cons, turned_f hn]
    simp only [Option.bind_some]
    rw [put_l1 _ _ _ _ (zig n) (Nat.le_refl _) (zig_lt hn) acc k (by omega), w1 (by omega) (by omega)]
    have := put_l0 l (m ++ [n]) (acc ++ enc (zig n)) k (fun x hx => hI x (List.mem_cons_of_mem _ hx)) (by rw [List.length_append]; omega) (by simp; omega) (by omega)
    simp only [List.append_assoc, List.cons_append, List.nil_append, List.length_append, List.length_cons, List.length_nil] at this ⊢
    have e : ((m.length + (0 + 1) : Nat) : Int) = (m.length : Int) + 1 := by omega
    rw [e] at this
    rw [this]
    simp [nums, num]
theorem put_comes {acc l : List Int} (hI : ∀ x ∈ l, I64 x) (ha : acc.length + 10 * l.length ≤ 140737488355000) (hl : l.length ≤ 140737488355000) : Comes (fun k => wire_Put.f k acc l) (acc ++ nums l) := by
  refine Comes.of (11 * l.length + 1) (fun k hk => ?_)
  show wire_Put.f k acc l = _
  unfold wire_Put.f
  rw [clone_f (by omega)]
  simp only [Option.bind_some]
  unfold wire_put.f
  have := put_l0 l [] acc k hI ha (by simpa using hl) hk
  simp only [List.nil_append, List.length_nil] at this
  rw [show ((0 : Nat) : Int) = 0 from rfl] at this
  rw [this]
  rfl
theorem putrow_comes {acc row : List Int} (ha : acc.length + 10 + row.length ≤ 140737488355000) : Comes (fun k => wire_PutRow.f k acc row) (acc ++ num (row.length : Int) ++ row) := by
  have hI : ∀ x ∈ [(row.length : Int)], I64 x := fun x hx => by
    rw [List.mem_singleton] at hx
    subst hx
    unfold I64
    omega
  have h := put_comes (acc := acc) (l := [(row.length : Int)]) hI (by simp; omega) (by simp)
  have hle := num_le (hI _ List.mem_cons_self)
  have e : nums [(row.length : Int)] = num (row.length : Int) := by simp [nums]
  rw [e] at h
  refine (Comes.bind (g := fun k t214 => (if t214.length + row.length < 140737488355328 then (some (t214 ++ row)) else (none))) h (q := acc ++ num (row.length : Int) ++ row) ?_).congr (fun k => rfl)
  refine Comes.congr (g := fun _ => some (acc ++ num (row.length : Int) ++ row)) Comes.now (fun k => ?_)
  rw [if_pos (by rw [List.length_append]; omega)]

/-! #### take -/
def tk (i v : Nat) : List Int → Int × Int
  | [] => (0, 0)
  | c :: r => if i = 9 ∧ c > 1 then (0, 0) else if c < 128 then (if c = 0 ∧ 0 < i then (0, 0) else (zag (v + c.toNat % 128 * 128 ^ i), (i : Int) + 1)) else tk (i + 1) (v + c.toNat % 128 * 128 ^ i) r
theorem take_l0 : ∀ (l m : List Int) (v : Nat) (k : Nat), Bytes l → (m ++ l).length ≤ 10 → v < 128 ^ m.length → 2 * l.length + 1 ≤ k → wire_take.l0 k (v : Int) (m ++ l) ((m ++ l).length : Int) (m.length : Int) = some (tk m.length v l)
  | [], m, v, k, hb, hl, hv, hk => by
    obtain ⟨k, rfl⟩ : ∃ j, k = j + 1 := ⟨k - 1, by omega⟩
    simp only [wire_take.l0]
    rw [if_neg (by simp)]
    rfl
  | c :: l, m, v, k, hb, hl, hv, hk => by
    have hc := hb c List.mem_cons_self
    have hl' := hl
    rw [List.length_append, List.length_cons] at hl'
    rw [List.length_cons] at hk
    obtain ⟨k, rfl⟩ : ∃ j, k = (j + 1) + 1 := ⟨k - 2, by omega⟩
    obtain ⟨c, rfl⟩ := Int.eq_ofNat_of_zero_le hc.1
    simp only [wire_take.l0, tk]
    rw [if_pos (by simp; omega), if_pos (by omega), if_pos (by simp; omega), rd_cons]
    have hb1 : (if (m.length : Int) = 9 then wire_take.j1 (k + 1) (v : Int) (m.length : Int) (c : Int) (m ++ (c : Int) :: l) ((m ++ (c : Int) :: l).length : Int) (m.length : Int) (decide ((c : Int) > 1)) else wire_take.j1 (k + 1) (v : Int) (m.length : Int) (c : Int) (m ++ (c : Int) :: l) ((m ++ (c : Int) :: l).length : Int) (m.length : Int) false) =
        wire_take.j1 (k + 1) (v : Int) (m.length : Int) (c : Int) (m ++ (c : Int) :: l) ((m ++ (c : Int) :: l).length : Int) (m.length : Int) (decide (m.length = 9 ∧ (c : Int) > 1)) := by
      by_cases h9 : m.length = 9
      · rw [if_pos (by omega)]
        simp [h9]
      · rw [if_neg (by omega)]
        simp [h9]
    rw [hb1]
    simp only [wire_take.j1]
    by_cases h9 : m.length = 9 ∧ (c : Int) > 1
    · rw [decide_eq_true h9, if_pos rfl, if_pos h9]
    · rw [decide_eq_false h9, if_neg (by decide), if_neg h9]
      have e7' : wrap64 (7 * (m.length : Int)) = 7 * m.length := by unfold wrap64; omega
      have e7 : 0 ≤ wrap64 (7 * (m.length : Int)) := by rw [e7']; omega
      rw [if_pos e7]
      obtain ⟨e1, e2⟩ := or_shift (v := v) (c := c) (i := m.length) hv (by omega) (by omega) (fun h => by omega)
      rw [e1, Int.toNat_natCast]
      by_cases h128 : (c : Int) < 128
      · rw [if_pos h128, if_pos h128]
        by_cases hz : (c : Int) = 0
        · rw [if_pos hz]
          by_cases hm : (m.length : Int) > 0
          · rw [if_pos hm, if_pos ⟨hz, by omega⟩]
          · rw [if_neg hm, if_neg (by omega), zag_bits _ e2, w1 (by omega) (by omega)]
        · rw [if_neg hz, if_neg (by omega), zag_bits _ e2, w1 (by omega) (by omega)]
      · rw [if_neg h128, if_neg h128, w1 (by omega) (by omega)]
        have hv' : v + c % 128 * 128 ^ m.length < 128 ^ (m.length + 1) := by
          have h4 : c % 128 ≤ 127 := by omega
          have h5 : c % 128 * 128 ^ m.length ≤ 127 * 128 ^ m.length := Nat.mul_le_mul_right _ h4
          rw [Nat.pow_succ]
          omega
        have := take_l0 l (m ++ [(c : Int)]) (v + c % 128 * 128 ^ m.length) k (fun x hx => hb x (List.mem_cons_of_mem _ hx)) (by simp; omega) (by simpa using hv') (by omega)
        simp only [List.append_assoc, List.cons_append, List.nil_append, List.length_append, List.length_cons, List.length_nil] at this ⊢
        have e : ((m.length + (0 + 1) : Nat) : Int) = (m.length : Int) + 1 := by omega
        rw [e] at this
        exact this
/-- What take answers. -/
def takeOf (l : List Int) : Int × Int := tk 0 0 (l.take 10)
theorem take_comes {l : List Int} (hb : Bytes l) (hl : l.length ≤ 140737488355328) : ∀ k, 21 ≤ k → wire_take.f k l = some (takeOf l) := by
  intro k hk
  have hm : mn (l.length : Int) 10 = ((min l.length 10 : Nat) : Int) := by unfold mn; split <;> omega
  unfold wire_take.f
  rw [hm, if_pos (by omega), if_pos (by omega), Int.toNat_natCast]
  have e : l.take (min l.length 10) = l.take 10 := by
    by_cases h : l.length ≤ 10
    · rw [Nat.min_eq_left h, List.take_of_length_le (Nat.le_refl _), List.take_of_length_le h]
    · rw [Nat.min_eq_right (by omega)]
  rw [e]
  have := take_l0 (l.take 10) [] 0 k (hb.take 10) (by simp; omega) (by simp) (by simp; omega)
  simp only [List.nil_append, List.length_nil] at this
  rw [show ((0 : Nat) : Int) = 0 from rfl] at this
  exact this
theorem tk_enc : ∀ (n : Nat) (u : Nat), u ≤ n → ∀ (i v : Nat) (r : List Int), u * 128 ^ i < 18446744073709551616 → (0 < i → 0 < u) → i ≤ 9 → tk i v (enc u ++ r) = (zag (v + u * 128 ^ i), (i : Int) + (enc u).length) := by
  intro n
  induction n with
  | zero =>
    intro u hu i v r hlt hpos hi
    obtain rfl : u = 0 := by omega
    have hi0 : i = 0 := by rcases Nat.eq_zero_or_pos i with h | h; exact h; exact absurd (hpos h) (by omega)
    subst hi0
    rw [enc_small (by omega)]
    simp [tk]
  | succ n ih =>
    intro u hu i v r hlt hpos hi
    have h9 : i = 9 → u ≤ 1 := by
      intro h
      subst h
      have e9 : (128 : Nat) ^ 9 = 9223372036854775808 := by decide
      rw [e9] at hlt
      omega
    by_cases h : u < 128
    · rw [enc_small h]
      simp only [tk, List.cons_append]
      rw [if_neg (by omega), if_pos (by omega)]
      have hz : ¬ ((u : Int) = 0 ∧ 0 < i) := fun q => by have := hpos q.2; omega
      rw [if_neg hz, Int.toNat_natCast, Nat.mod_eq_of_lt h]
      rfl
    · rw [enc_big (by omega)]
      simp only [tk, List.cons_append]
      have hi9 : i ≠ 9 := fun q => by have := h9 q; omega
      rw [if_neg (by omega), if_neg (by omega), Int.toNat_natCast]
      have e1 : (u % 128 + 128) % 128 = u % 128 := by omega
      have hle : u / 128 * 128 ^ (i + 1) ≤ u * 128 ^ i := by
        rw [Nat.pow_succ, Nat.mul_comm (128 ^ i) 128, ← Nat.mul_assoc]
        exact Nat.mul_le_mul_right _ (Nat.div_mul_le_self u 128)
      rw [e1, ih (u / 128) (by omega) (i + 1) _ r (by omega) (fun _ => by omega) (by omega)]
      have e2 : v + u % 128 * 128 ^ i + u / 128 * 128 ^ (i + 1) = v + u * 128 ^ i := by
        rw [Nat.pow_succ, Nat.mul_comm (128 ^ i) 128, ← Nat.mul_assoc, Nat.add_assoc, ← Nat.add_mul]
        congr 2
        omega
      rw [e2, List.length_cons]
      congr 1
      omega
theorem take_num {n : Int} (hn : I64 n) (r : List Int) : takeOf (num n ++ r) = (n, ((num n).length : Int)) := by
  unfold takeOf
  have hle := num_le hn
  rw [List.take_append, List.take_of_length_le hle]
  have := tk_enc _ (zig n) (Nat.le_refl _) 0 0 (r.take (10 - (num n).length)) (by simpa using zig_lt hn) (fun h => absurd h (by decide)) (by decide)
  unfold num at this ⊢
  rw [this]
  simp [zag_zig]
theorem tk_inv : ∀ (l : List Int) (i v : Nat), Bytes l → i + l.length ≤ 10 → v < 128 ^ i → (tk i v l).2 ≠ 0 → ∃ u r, l = enc u ++ r ∧ tk i v l = (zag (v + u * 128 ^ i), (i : Int) + (enc u).length) ∧ (0 < i → 0 < u) ∧ v + u * 128 ^ i < 18446744073709551616
  | [], i, v, hb, hl, hv, h => by simp [tk] at h
  | c :: l, i, v, hb, hl, hv, h => by
    have hc := hb c List.mem_cons_self
    rw [List.length_cons] at hl
    obtain ⟨c, rfl⟩ := Int.eq_ofNat_of_zero_le hc.1
    simp only [tk] at h ⊢
    by_cases h9 : i = 9 ∧ (c : Int) > 1
    · rw [if_pos h9] at h
      simp at h
    · rw [if_neg h9] at h ⊢
      obtain ⟨_, hlt⟩ := or_shift (v := v) (c := c) (i := i) hv (by omega) (by omega) (fun q => by omega)
      by_cases h128 : (c : Int) < 128
      · rw [if_pos h128] at h ⊢
        by_cases hz : (c : Int) = 0 ∧ 0 < i
        · rw [if_pos hz] at h
          simp at h
        · rw [if_neg hz]
          rw [Int.toNat_natCast, Nat.mod_eq_of_lt (by omega)]
          rw [Nat.mod_eq_of_lt (by omega)] at hlt
          exact ⟨c, l, by rw [enc_small (by omega)]; rfl, by rw [enc_small (by omega)]; rfl, fun q => by omega, hlt⟩
      · rw [if_neg h128, Int.toNat_natCast] at h ⊢
        have hv' : v + c % 128 * 128 ^ i < 128 ^ (i + 1) := by
          have h4 : c % 128 ≤ 127 := by omega
          have h5 : c % 128 * 128 ^ i ≤ 127 * 128 ^ i := Nat.mul_le_mul_right _ h4
          rw [Nat.pow_succ]
          omega
        obtain ⟨u, r, h1, h2, h3, h4⟩ := tk_inv l (i + 1) _ (fun x hx => hb x (List.mem_cons_of_mem _ hx)) (by omega) hv' h
        have hu := h3 (by omega)
        have e0 : 128 ≤ 128 * u + c % 128 := by omega
        have e1 : (128 * u + c % 128) / 128 = u := by omega
        have e2 : (128 * u + c % 128) % 128 + 128 = c := by omega
        have e3 : v + (128 * u + c % 128) * 128 ^ i = v + c % 128 * 128 ^ i + u * 128 ^ (i + 1) := by
          rw [Nat.pow_succ, Nat.add_mul, Nat.mul_comm (128 ^ i) 128, ← Nat.mul_assoc, Nat.mul_comm u 128]
          omega
        refine ⟨128 * u + c % 128, r, ?_, ?_, fun _ => by omega, by rw [e3]; exact h4⟩
        · rw [enc_big e0, e1, e2, h1]
          rfl
        · rw [h2, enc_big e0, e1, e3, List.length_cons]
          congr 1
          omega
theorem take_inv {l : List Int} (hb : Bytes l) (h : (takeOf l).2 ≠ 0) : ∃ n r, I64 n ∧ l = num n ++ r ∧ takeOf l = (n, ((num n).length : Int)) := by
  unfold takeOf at h
  obtain ⟨u, r, h1, h2, _, h4⟩ := tk_inv (l.take 10) 0 0 (hb.take 10) (by simp; omega) (by simp) h
  simp only [Nat.pow_zero, Nat.mul_one, Nat.zero_add] at h2 h4
  refine ⟨zag u, r ++ l.drop 10, zag_i64 h4, ?_, ?_⟩
  · unfold num
    rw [zig_zag, ← List.append_assoc, ← h1, List.take_append_drop]
  · unfold takeOf num
    rw [zig_zag, h2]
    simp
end Go.Proofs.Ytbphmpncajfaiaa.M
/- Plain: Takes, TakeRow, Take and Ints. -/
namespace Go.Proofs.Ytbphmpncajfaiaa.M
open Go.RowKit Go.Proofs.Ytbphmpncajfaiaa.Py Go.Proofs.YtbphmpncajfaiaaW.PrintWords
set_option linter.unusedVariables false
set_option linter.unusedSimpArgs false
theorem takes_l0 (cnt : Nat) (hcnt : cnt ≤ 4096) : ∀ (l acc : List Int) (r : List Int) (i : Nat) (k : Nat), (∀ x ∈ l, I64 x) → i + l.length = cnt → Bytes r → r.length ≤ 140737488300000 → acc.length ≤ 4096 → acc.length + l.length ≤ 4096 → l.length + 22 ≤ k →
    wire_Takes.l0 k (nums l ++ r) acc (cnt : Int) (i : Int) = some (acc ++ l, r, none)
  | [], acc, r, i, k, hI, hi, hr, hl, ha, ha', hk => by
    obtain ⟨k, rfl⟩ : ∃ j, k = j + 1 := ⟨k - 1, by omega⟩
    simp only [wire_Takes.l0]
    rw [if_neg (by simp at hi; omega)]
    have e : nums [] ++ r = r := rfl
    rw [e, clone_f (by omega)]
    simp
  | n :: l, acc, r, i, k, hI, hi, hr, hl, ha, ha', hk => by
    have hn := hI n List.mem_cons_self
    have hI' : ∀ x ∈ l, I64 x := fun x hx => hI x (List.mem_cons_of_mem _ hx)
    rw [List.length_cons] at hi hk ha'
    have hle := num_le hn
    have hp : 0 < (num n).length := enc_pos _
    have hnl := nums_len hI'
    obtain ⟨k, rfl⟩ : ∃ j, k = j + 1 := ⟨k - 1, by omega⟩
    have e : nums (n :: l) ++ r = num n ++ (nums l ++ r) := by simp [nums]
    simp only [wire_Takes.l0]
    rw [if_pos (by omega), e, take_comes ((num_bytes n).append ((nums_bytes l).append hr)) (by simp; omega) k (by omega), take_num hn]
    simp only [Option.bind_some]
    rw [if_neg (by omega), if_pos (by omega), if_pos (by omega), if_pos (by simp; omega), Int.toNat_natCast, List.drop_left, w1 (by omega) (by omega)]
    have := takes_l0 cnt hcnt l (acc ++ [n]) r (i + 1) k hI' (by omega) hr hl (by simp; omega) (by simp; omega) (by omega)
    have e' : ((i + 1 : Nat) : Int) = (i : Int) + 1 := by omega
    rw [e'] at this
    rw [this, List.append_assoc]
    rfl
theorem takes_comes {l r : List Int} (hI : ∀ x ∈ l, I64 x) (hl : l.length ≤ 4096) (hr : Bytes r) (hrl : r.length ≤ 140737488300000) : Comes (fun k => wire_Takes.f k (nums l ++ r) (l.length : Int)) (l, r, none) := by
  refine Comes.of (l.length + 23) (fun k hk => ?_)
  obtain ⟨k, rfl⟩ : ∃ j, k = j + 1 := ⟨k - 1, by omega⟩
  show wire_Takes.f (k + 1) (nums l ++ r) (l.length : Int) = _
  unfold wire_Takes.f
  rw [if_neg (by omega), decide_eq_false (by omega)]
  simp only [wire_Takes.j0]
  rw [if_neg (by decide)]
  have := takes_l0 l.length hl l [] r 0 k hI (by omega) hr hrl (by simp) (by simpa using hl) (by omega)
  exact this
theorem takerow_comes {row more : List Int} (hb : Bytes (row ++ more)) (hl : row.length + more.length ≤ 140737488300000) : Comes (fun k => wire_TakeRow.f k (num (row.length : Int) ++ row ++ more)) (row, more, none) := by
  have hn : I64 (row.length : Int) := by unfold I64; omega
  have hle := num_le hn
  have hp : 0 < (num (row.length : Int)).length := enc_pos _
  refine Comes.of 22 (fun k hk => ?_)
  obtain ⟨k, rfl⟩ : ∃ j, k = j + 1 := ⟨k - 1, by omega⟩
  show wire_TakeRow.f (k + 1) (num (row.length : Int) ++ row ++ more) = _
  unfold wire_TakeRow.f
  rw [List.append_assoc, take_comes ((num_bytes _).append hb) (by simp; omega) (k + 1) (by omega), take_num hn]
  simp only [Option.bind_some]
  have e1 : wrap64 (((num (row.length : Int) ++ (row ++ more)).length : Int) - ((num (row.length : Int)).length : Int)) = row.length + more.length := by
    simp only [List.length_append]
    unfold wrap64
    omega
  have e2 : wrap64 (((num (row.length : Int)).length : Int) + (row.length : Int)) = ((num (row.length : Int)).length + row.length : Nat) := by unfold wrap64; omega
  rw [if_neg (by omega), if_neg (by omega), e1, decide_eq_false (by omega)]
  simp only [wire_TakeRow.j0]
  rw [if_neg (by decide), if_pos (by omega), e2, if_pos (by omega), if_pos (by simp only [List.length_append]; omega), Int.toNat_natCast, Int.toNat_natCast]
  have e3 : ((num (row.length : Int) ++ (row ++ more)).take ((num (row.length : Int)).length + row.length)).drop (num (row.length : Int)).length = row := by
    rw [← List.append_assoc, List.take_left' (by simp), List.drop_left]
  have e4 : (num (row.length : Int) ++ (row ++ more)).drop ((num (row.length : Int)).length + row.length) = more := by
    rw [← List.append_assoc, List.drop_left' (by simp)]
  rw [e3, e4, clone_f (by omega), clone_f (by omega)]
  simp only [Option.bind_some]
  rw [if_pos (by omega)]
theorem ints_l0 : ∀ (l m : List Int) (k : Nat), (m ++ l).length ≤ 140737488300000 → l.length + 1 ≤ k → palimpsestnum_Ints.l0 k (m ++ l) (m ++ l) ((m ++ l).length : Int) (m.length : Int) = some true
  | [], m, k, hl, hk => by
    obtain ⟨k, rfl⟩ : ∃ j, k = j + 1 := ⟨k - 1, by omega⟩
    simp only [palimpsestnum_Ints.l0]
    rw [if_neg (by simp)]
  | n :: l, m, k, hl, hk => by
    have hl' := hl
    rw [List.length_append, List.length_cons] at hl'
    rw [List.length_cons] at hk
    obtain ⟨k, rfl⟩ : ∃ j, k = j + 1 := ⟨k - 1, by omega⟩
    simp only [palimpsestnum_Ints.l0]
    rw [if_pos (by simp; omega), if_pos (by omega), if_pos (by simp; omega), if_pos (by simp; omega), if_pos trivial, w1 (by omega) (by omega)]
    have := ints_l0 l (m ++ [n]) k (by simp; omega) (by omega)
    simp only [List.append_assoc, List.cons_append, List.nil_append, List.length_append, List.length_cons, List.length_nil] at this ⊢
    have e : ((m.length + (0 + 1) : Nat) : Int) = (m.length : Int) + 1 := by omega
    rw [e] at this
    exact this
theorem ints_comes {l : List Int} (hl : l.length ≤ 140737488300000) : Comes (fun k => palimpsestnum_Ints.f k l l) true := by
  refine Comes.of (l.length + 1) (fun k hk => ?_)
  show palimpsestnum_Ints.f k l l = _
  unfold palimpsestnum_Ints.f
  rw [if_pos rfl]
  have := ints_l0 l [] k (by simpa using hl) hk
  simp only [List.nil_append, List.length_nil] at this
  exact this
/-- Take: none, or a number whose bytes they are. -/
theorem take1_comes {l : List Int} (hb : Bytes l) (hl : l.length ≤ 140737488300000) : Comes (fun k => wire_Take.f k l) (0, [], some 4) ∨ ∃ n r, I64 n ∧ l = num n ++ r ∧ Comes (fun k => wire_Take.f k l) (n, r, none) := by
  by_cases h : (takeOf l).2 = 0
  · left
    refine Comes.of 21 (fun k hk => ?_)
    show wire_Take.f k l = _
    unfold wire_Take.f
    rw [take_comes hb (by omega) k hk]
    simp only [Option.bind_some]
    rw [if_pos h]
  · right
    obtain ⟨n, r, hn, hx, ht⟩ := take_inv hb h
    refine ⟨n, r, hn, hx, Comes.of 21 (fun k hk => ?_)⟩
    have hp : 0 < (num n).length := enc_pos _
    have hlr : (num n).length + r.length = l.length := by rw [hx]; simp
    show wire_Take.f k l = _
    unfold wire_Take.f
    rw [take_comes hb (by omega) k hk, ht]
    simp only [Option.bind_some]
    rw [if_neg (by omega), if_pos (by omega), if_pos (by omega), Int.toNat_natCast]
    have e : l.drop (num n).length = r := by rw [hx, List.drop_left]
    rw [e, clone_f (by omega)]
    rfl
end Go.Proofs.Ytbphmpncajfaiaa.M
/- Plain: the document's numbers and rows. -/
namespace Go.Proofs.Ytbphmpncajfaiaa.M
open Go.RowKit Go.Proofs.Ytbphmpncajfaiaa.Py Go.Proofs.YtbphmpncajfaiaaW.PrintWords
set_option linter.unusedVariables false
set_option linter.unusedSimpArgs false
theorem wu (x : Int) (h0 : 0 ≤ x) (h : x < 18446744073709551616) : IntKind.u64.wrap x = x := by
  have e : IntKind.u64.wrap x = x % 18446744073709551616 := by simp [IntKind.wrap, IntKind.bits, IntKind.signed]
  rw [e]
  omega
theorem number_l0 : ∀ (n u : Nat), u ≤ n → u < 18446744073709551616 → ∀ (acc : List Int) (k : Nat), acc.length + (enc u).length ≤ 140737488355328 → palimpsestref02_Number.l0 ((enc u).length + k) (u : Int) acc = some (acc ++ enc u) := by
  intro n
  induction n with
  | zero =>
    intro u hu hlt acc k hl
    rw [enc_small (show u < 128 by omega)] at hl ⊢
    rw [show [(u : Int)].length + k = k + 1 by simp; omega]
    simp only [palimpsestref02_Number.l0]
    rw [Int.tdiv_eq_ediv_of_nonneg (by omega), Int.tmod_eq_emod_of_nonneg (by omega), wu _ (by omega) (by omega), if_pos (by omega), if_pos (by simp at hl; omega)]
    have e : (u : Int) % 128 % 256 = u := by omega
    rw [e]
  | succ n ih =>
    intro u hu hlt acc k hl
    by_cases h : u < 128
    · rw [enc_small h] at hl ⊢
      rw [show [(u : Int)].length + k = k + 1 by simp; omega]
      simp only [palimpsestref02_Number.l0]
      rw [Int.tdiv_eq_ediv_of_nonneg (by omega), Int.tmod_eq_emod_of_nonneg (by omega), wu _ (by omega) (by omega), if_pos (by omega), if_pos (by simp at hl; omega)]
      have e : (u : Int) % 128 % 256 = u := by omega
      rw [e]
    · rw [enc_big (by omega)] at hl ⊢
      rw [List.length_cons] at hl ⊢
      rw [show (enc (u / 128)).length + 1 + k = ((enc (u / 128)).length + k) + 1 by omega]
      simp only [palimpsestref02_Number.l0]
      rw [Int.tdiv_eq_ediv_of_nonneg (by omega), Int.tmod_eq_emod_of_nonneg (by omega), wu _ (by omega) (by omega), if_neg (by omega), if_pos (by omega)]
      have e1 : ((u : Int) % 128 % 256 + 128) % 256 = ((u % 128 + 128 : Nat) : Int) := by omega
      have e2 : (u : Int) / 128 = ((u / 128 : Nat) : Int) := by omega
      rw [e1, e2, ih (u / 128) (by omega) (by omega) _ k (by simp; omega), List.append_assoc]
      rfl
theorem number_f {n : Int} (h : I64 n) : ∀ k, 11 ≤ k → palimpsestref02_Number.f k n = some (num n) := by
  intro k hk
  have hlt := zig_lt h
  have hle := num_le h
  unfold num at hle
  have key : palimpsestref02_Number.j0 k ((zig n : Nat) : Int) = some (num n) := by
    obtain ⟨k, rfl⟩ : ∃ j, k = ((enc (zig n)).length + j) + 1 := ⟨k - 1 - (enc (zig n)).length, by omega⟩
    simp only [palimpsestref02_Number.j0]
    have := number_l0 _ (zig n) (Nat.le_refl _) hlt [] k (by simp; omega)
    rw [this]
    rfl
  unfold I64 at h
  unfold palimpsestref02_Number.f
  by_cases h0 : n < 0
  · rw [if_pos h0]
    have e1 : wrap64 (n + 1) = n + 1 := by unfold wrap64; omega
    have e2 : wrap64 (-(n + 1)) = -(n + 1) := by unfold wrap64; omega
    rw [e1, e2, wu (-(n + 1)) (by omega) (by omega), wu (-(n + 1) * 2) (by omega) (by omega), wu (-(n + 1) * 2 + 1) (by omega) (by omega)]
    have e : -(n + 1) * 2 + 1 = ((zig n : Nat) : Int) := by unfold zig; rw [if_neg (by omega)]; omega
    rw [e]
    exact key
  · rw [if_neg h0, wu n (by omega) (by omega), wu _ (by omega) (by omega)]
    have e : n * 2 = ((zig n : Nat) : Int) := by unfold zig; rw [if_pos (by omega)]; omega
    rw [e]
    exact key
theorem rput_l0 : ∀ (l m acc : List Int) (k : Nat), (∀ x ∈ l, I64 x) → acc.length + 10 * l.length ≤ 140737488355000 → (m ++ l).length ≤ 140737488355000 → l.length + 13 ≤ k → palimpsestref02_Put.l0 k (m ++ l) acc (m.length : Int) = some (acc ++ nums l)
  | [], m, acc, k, hI, ha, hl, hk => by
    obtain ⟨k, rfl⟩ : ∃ j, k = j + 1 := ⟨k - 1, by omega⟩
    simp only [palimpsestref02_Put.l0]
    rw [if_neg (by simp)]
    simp [nums]
  | n :: l, m, acc, k, hI, ha, hl, hk => by
    have hn := hI n List.mem_cons_self
    have hle := num_le hn
    rw [List.length_cons] at ha hk
    have hl' := hl
    rw [List.length_append, List.length_cons] at hl'
    obtain ⟨k, rfl⟩ : ∃ j, k = j + 1 := ⟨k - 1, by omega⟩
    simp only [palimpsestref02_Put.l0]
    rw [if_pos (by simp; omega), if_pos (by omega), rd_cons, number_f hn k (by omega)]
    simp only [Option.bind_some]
    rw [if_pos (by omega), w1 (by omega) (by omega)]
    have := rput_l0 l (m ++ [n]) (acc ++ num n) k (fun x hx => hI x (List.mem_cons_of_mem _ hx)) (by rw [List.length_append]; omega) (by simp; omega) (by omega)
    simp only [List.append_assoc, List.cons_append, List.nil_append, List.length_append, List.length_cons, List.length_nil] at this ⊢
    have e : ((m.length + (0 + 1) : Nat) : Int) = (m.length : Int) + 1 := by omega
    rw [e] at this
    rw [this]
    simp [nums]
theorem rput_comes {acc l : List Int} (hI : ∀ x ∈ l, I64 x) (ha : acc.length + 10 * l.length ≤ 140737488355000) (hl : l.length ≤ 140737488355000) : Comes (fun k => palimpsestref02_Put.f k acc l) (acc ++ nums l) := by
  refine Comes.of (l.length + 13) (fun k hk => ?_)
  show palimpsestref02_Put.f k acc l = _
  unfold palimpsestref02_Put.f
  simp only [Option.bind_some, List.nil_append, List.length_nil]
  rw [if_pos (by omega)]
  have := rput_l0 l [] acc k hI ha (by simpa using hl) hk
  simp only [List.nil_append, List.length_nil] at this
  exact this
theorem rrow_comes {row : List Int} (hl : 10 + row.length ≤ 140737488355000) : Comes (fun k => palimpsestref02_Row.f k row) (num (row.length : Int) ++ row) := by
  refine Comes.of 11 (fun k hk => ?_)
  show palimpsestref02_Row.f k row = _
  have hI : I64 (row.length : Int) := by unfold I64; omega
  have := num_le hI
  unfold palimpsestref02_Row.f
  rw [number_f hI k hk]
  simp only [Option.bind_some]
  rw [if_pos (by omega)]
end Go.Proofs.Ytbphmpncajfaiaa.M
/- Cells as bytes and back: pure. -/
namespace Go.Proofs.Ytbphmpncajfaiaa.M
open Go.RowKit Go.Proofs.Ytbphmpncajfaiaa.K Go.Proofs.Ytbphmpncajfaiaa.Py Go.Proofs.YtbphmpncajfaiaaW.PrintWords Go.Proofs.YtbphmpncajfaiaaW.PrintLast Go.Proofs.YtbphmpncajfaiaaW.PrintMore
set_option linter.unusedVariables false
set_option linter.unusedSimpArgs false
/-- The first j bytes as a number, the highest first, as the code has it. -/
def word (seg : List Int) (j : Nat) : Int := (seg.take j).foldl (fun u v => bits .or .u64 (IntKind.u64.wrap (u * 256)) (IntKind.u64.wrap v)) 0
def segOf (rs : List Int) (i : Nat) : List Int := (rs.take (8 * i + 8)).drop (8 * i)
def cellsOf (rs : List Int) : List Int := (List.range 60).map (fun i => wrap64 (word (segOf rs i) 8))
theorem word_succ (seg : List Int) (j : Nat) (v : Int) (h : seg[j]? = some v) : word seg (j + 1) = bits .or .u64 (IntKind.u64.wrap (word seg j * 256)) (IntKind.u64.wrap v) := by
  unfold word
  rw [List.take_add_one, h, List.foldl_append]
  rfl
theorem or_step {u v : Int} (h0 : 0 ≤ u) (h1 : u < 72057594037927936) (h2 : 0 ≤ v) (h3 : v < 256) : bits .or .u64 (IntKind.u64.wrap (u * 256)) (IntKind.u64.wrap v) = u * 256 + v := by
  rw [wu _ (by omega) (by omega), wu _ (by omega) (by omega)]
  obtain ⟨a, rfl⟩ := Int.eq_ofNat_of_zero_le h0
  obtain ⟨b, rfl⟩ := Int.eq_ofNat_of_zero_le h2
  rw [show ((a : Int) * 256) = ((2 ^ 8 * a : Nat) : Int) by omega, (bits_nat .u64 64 (by decide) (fun n h0 h1 => by rw [IntKind.wrap_u64]; omega) (2 ^ 8 * a) b (by omega) (by omega)).2, ← Nat.two_pow_add_eq_or_of_lt (by omega)]
  omega
theorem word8 (a b c d e f g h : Int) (ha : 0 ≤ a ∧ a < 256) (hb : 0 ≤ b ∧ b < 256) (hc : 0 ≤ c ∧ c < 256) (hd : 0 ≤ d ∧ d < 256) (he : 0 ≤ e ∧ e < 256) (hf : 0 ≤ f ∧ f < 256) (hg : 0 ≤ g ∧ g < 256) (hh : 0 ≤ h ∧ h < 256) :
    word [a, b, c, d, e, f, g, h] 8 = ((((((a * 256 + b) * 256 + c) * 256 + d) * 256 + e) * 256 + f) * 256 + g) * 256 + h := by
  unfold word
  rw [List.take_of_length_le (by simp)]
  simp only [List.foldl_cons, List.foldl_nil]
  rw [or_step (u := 0) (by omega) (by omega) ha.1 ha.2, Int.zero_mul, Int.zero_add]
  rw [or_step (u := a) (by omega) (by omega) hb.1 hb.2]
  rw [or_step (v := c) (by omega) (by omega) hc.1 hc.2]
  rw [or_step (v := d) (by omega) (by omega) hd.1 hd.2]
  rw [or_step (v := e) (by omega) (by omega) he.1 he.2]
  rw [or_step (v := f) (by omega) (by omega) hf.1 hf.2]
  rw [or_step (v := g) (by omega) (by omega) hg.1 hg.2]
  rw [or_step (v := h) (by omega) (by omega) hh.1 hh.2]
theorem b0 (n : Int) : byteAt n 0 = n % 18446744073709551616 / 72057594037927936 % 256 := by unfold byteAt; rw [show (2 : Int) ^ (56 - 8 * 0) = 72057594037927936 by decide]
theorem b1 (n : Int) : byteAt n 1 = n % 18446744073709551616 / 281474976710656 % 256 := by unfold byteAt; rw [show (2 : Int) ^ (56 - 8 * 1) = 281474976710656 by decide]
theorem b2 (n : Int) : byteAt n 2 = n % 18446744073709551616 / 1099511627776 % 256 := by unfold byteAt; rw [show (2 : Int) ^ (56 - 8 * 2) = 1099511627776 by decide]
theorem b3 (n : Int) : byteAt n 3 = n % 18446744073709551616 / 4294967296 % 256 := by unfold byteAt; rw [show (2 : Int) ^ (56 - 8 * 3) = 4294967296 by decide]
theorem b4 (n : Int) : byteAt n 4 = n % 18446744073709551616 / 16777216 % 256 := by unfold byteAt; rw [show (2 : Int) ^ (56 - 8 * 4) = 16777216 by decide]
theorem b5 (n : Int) : byteAt n 5 = n % 18446744073709551616 / 65536 % 256 := by unfold byteAt; rw [show (2 : Int) ^ (56 - 8 * 5) = 65536 by decide]
theorem b6 (n : Int) : byteAt n 6 = n % 18446744073709551616 / 256 % 256 := by unfold byteAt; rw [show (2 : Int) ^ (56 - 8 * 6) = 256 by decide]
theorem b7 (n : Int) : byteAt n 7 = n % 18446744073709551616 % 256 := by unfold byteAt; rw [show (2 : Int) ^ (56 - 8 * 7) = 1 by decide, Int.ediv_one]
theorem eight_8 (n : Int) : eight n 8 = [byteAt n 0, byteAt n 1, byteAt n 2, byteAt n 3, byteAt n 4, byteAt n 5, byteAt n 6, byteAt n 7] := rfl
theorem byteAt_range (n : Int) (k : Nat) : 0 ≤ byteAt n k ∧ byteAt n k < 256 := ⟨Int.emod_nonneg _ (by decide), Int.emod_lt_of_pos _ (by decide)⟩
theorem eight_bytes (n : Int) (k : Nat) : Bytes (eight n k) := fun x hx => by
  simp only [eight, List.mem_map] at hx
  obtain ⟨i, _, rfl⟩ := hx
  exact byteAt_range n i
theorem word_eight (n : Int) : word (eight n 8) 8 = n % 18446744073709551616 := by
  rw [eight_8, word8 _ _ _ _ _ _ _ _ (byteAt_range n 0) (byteAt_range n 1) (byteAt_range n 2) (byteAt_range n 3) (byteAt_range n 4) (byteAt_range n 5) (byteAt_range n 6) (byteAt_range n 7), b0, b1, b2, b3, b4, b5, b6, b7]
  omega
theorem wrap_eight {n : Int} (h : I64 n) : wrap64 (word (eight n 8) 8) = n := by
  rw [word_eight]
  unfold I64 at h
  unfold wrap64
  omega
theorem eight_word {seg : List Int} (hl : seg.length = 8) (hb : Bytes seg) : eight (wrap64 (word seg 8)) 8 = seg := by
  match seg, hl, hb with
  | [a, b, c, d, e, f, g, h], _, hb =>
    have ha := hb a (by simp)
    have hb' := hb b (by simp)
    have hc := hb c (by simp)
    have hd := hb d (by simp)
    have he := hb e (by simp)
    have hf := hb f (by simp)
    have hg := hb g (by simp)
    have hh := hb h (by simp)
    rw [word8 a b c d e f g h ha hb' hc hd he hf hg hh, eight_8, b0, b1, b2, b3, b4, b5, b6, b7]
    have hw : ∀ x : Int, wrap64 x % 18446744073709551616 = x % 18446744073709551616 := fun x => by unfold wrap64; omega
    rw [hw]
    clear hw hb
    have hx : (((((((a * 256 + b) * 256 + c) * 256 + d) * 256 + e) * 256 + f) * 256 + g) * 256 + h) % 18446744073709551616 = ((((((a * 256 + b) * 256 + c) * 256 + d) * 256 + e) * 256 + f) * 256 + g) * 256 + h := by omega
    rw [hx]
    simp only [List.cons.injEq, and_true]
    refine ⟨?_, ?_, ?_, ?_, ?_, ?_, ?_, ?_⟩ <;> omega
theorem segOf_len {rs : List Int} {i : Nat} (h : 8 * i + 8 ≤ rs.length) : (segOf rs i).length = 8 := by
  unfold segOf
  rw [List.length_drop, List.length_take]
  omega
theorem segOf_bytes {rs : List Int} (h : Bytes rs) (i : Nat) : Bytes (segOf rs i) := (h.take _).drop _
theorem seg_flat : ∀ (l : List Int) (i : Nat) (x : Int), l[i]? = some x → segOf (l.flatMap (fun n => eight n 8)) i = eight x 8
  | [], i, x, h => by simp at h
  | y :: l, 0, x, h => by
    have : y = x := by simpa using h
    subst this
    unfold segOf
    rw [List.flatMap_cons, List.take_append, eight_len]
    simp [List.take_of_length_le, eight_len]
  | y :: l, i + 1, x, h => by
    have ih := seg_flat l i x (by simpa using h)
    unfold segOf at ih ⊢
    rw [List.flatMap_cons, List.take_append, List.drop_append, List.take_of_length_le (by rw [eight_len]; omega), List.drop_of_length_le (by rw [eight_len]; omega), eight_len, List.nil_append, show 8 * (i + 1) + 8 - 8 = 8 * i + 8 by omega, show 8 * (i + 1) - 8 = 8 * i by omega]
    exact ih
theorem eights_all {l : List Int} (hl : l.length = 60) : eights l 60 = l.flatMap (fun n => eight n 8) := by
  unfold eights
  rw [List.take_of_length_le (by omega)]
theorem eights_bytes (l : List Int) (x : Nat) : Bytes (eights l x) := fun y hy => by
  simp only [eights, List.mem_flatMap] at hy
  obtain ⟨n, _, h⟩ := hy
  exact eight_bytes n 8 y h
theorem flat_len : ∀ l : List Int, (l.flatMap (fun n => eight n 8)).length = 8 * l.length
  | [] => rfl
  | x :: l => by rw [List.flatMap_cons, List.length_append, flat_len l, eight_len, List.length_cons]; omega
theorem eights_480 {l : List Int} (hl : l.length = 60) : (eights l 60).length = 480 := by
  rw [eights_all hl, flat_len]
  omega
theorem cells_len (rs : List Int) : (cellsOf rs).length = 60 := by simp [cellsOf]
theorem cells_eights {l : List Int} (hl : l.length = 60) (hI : ∀ x ∈ l, I64 x) : cellsOf (eights l 60) = l := by
  apply List.ext_getElem (by rw [cells_len, hl])
  intro i h1 h2
  simp only [cellsOf, List.getElem_map, List.getElem_range]
  rw [eights_all hl, seg_flat l i l[i] (List.getElem?_eq_getElem h2), wrap_eight (hI _ (List.getElem_mem h2))]
theorem cells_i64 (rs : List Int) : ∀ x ∈ cellsOf rs, I64 x := fun x hx => by
  simp only [cellsOf, List.mem_map] at hx
  obtain ⟨i, _, rfl⟩ := hx
  unfold I64 wrap64
  omega
theorem chunks : ∀ (m : Nat) (rs : List Int), 8 * m ≤ rs.length → (List.range m).flatMap (fun i => segOf rs i) = rs.take (8 * m)
  | 0, rs, _ => rfl
  | m + 1, rs, h => by
    rw [List.range_succ, List.flatMap_append, chunks m rs (by omega)]
    simp only [List.flatMap_cons, List.flatMap_nil, List.append_nil, segOf]
    rw [show 8 * (m + 1) = 8 * m + 8 by omega]
    have := List.take_append_drop (8 * m) (rs.take (8 * m + 8))
    rw [List.take_take, Nat.min_eq_left (by omega)] at this
    exact this
theorem eights_cells {rs : List Int} (hl : rs.length = 480) (hb : Bytes rs) : eights (cellsOf rs) 60 = rs := by
  rw [eights_all (cells_len rs), cellsOf, List.flatMap_map]
  have h := chunks 60 rs (by omega)
  rw [List.take_of_length_le (by omega)] at h
  refine Eq.trans ?_ h
  have hc : ∀ m : List Nat, (∀ i ∈ m, i < 60) → m.flatMap (fun i => eight (wrap64 (word (segOf rs i) 8)) 8) = m.flatMap (fun i => segOf rs i) := by
    intro m
    induction m with
    | nil => intro _; rfl
    | cons i m ih =>
      intro hm
      have := hm i List.mem_cons_self
      rw [List.flatMap_cons, List.flatMap_cons, ih (fun j hj => hm j (List.mem_cons_of_mem _ hj)), eight_word (segOf_len (by omega)) (segOf_bytes hb i)]
  exact hc _ (fun i hi => List.mem_range.1 hi)
/-- A page's sector. -/
def encodeOf (n : Int) (l : List Int) : List Int := (boxOf 512 (num n ++ eights l 60)).1
theorem encode_fit {n : Int} {l : List Int} (hn : I64 n) (hl : l.length = 60) : (num n ++ eights l 60).length ≤ 490 ∧ 480 < (num n ++ eights l 60).length := by
  have h1 := num_le hn
  have h2 : 0 < (num n).length := enc_pos _
  rw [List.length_append, eights_480 hl]
  omega
theorem encode_ok {n : Int} {l : List Int} (hn : I64 n) (hl : l.length = 60) : (boxOf 512 (num n ++ eights l 60)).2 = none := by
  have := (encode_fit hn hl).1
  unfold boxOf
  rw [if_neg (by omega), if_neg (by omega)]
theorem encode_box {n : Int} {l : List Int} (hn : I64 n) (hl : l.length = 60) : boxOf 512 (num n ++ eights l 60) = (encodeOf n l, none) := by
  rw [← encode_ok hn hl]
  rfl
theorem encode_len {n : Int} {l : List Int} (hn : I64 n) (hl : l.length = 60) : (encodeOf n l).length = 512 := by
  have := boxOf_len (encode_ok hn hl)
  unfold encodeOf
  omega
theorem fl_bytes (n : Int) (l : List Int) : Bytes (num n ++ eights l 60) := (num_bytes n).append (eights_bytes l 60)
theorem encode_bytes (n : Int) (l : List Int) : Bytes (encodeOf n l) := boxOf_bytes (fl_bytes n l)
theorem take_dec {l : List Int} (hb : Bytes l) (hl : l.length ≤ 140737488300000) : Comes (fun k => wire_Take.f k l) (if (takeOf l).2 = 0 then (0, [], some 4) else ((takeOf l).1, l.drop (takeOf l).2.toNat, none)) := by
  by_cases h : (takeOf l).2 = 0
  · rw [if_pos h]
    refine Comes.of 21 (fun k hk => ?_)
    show wire_Take.f k l = _
    unfold wire_Take.f
    rw [take_comes hb (by omega) k hk]
    simp only [Option.bind_some]
    rw [if_pos h]
  · rw [if_neg h]
    obtain ⟨n, r, hn, hx, ht⟩ := take_inv hb h
    refine Comes.of 21 (fun k hk => ?_)
    have hp : 0 < (num n).length := enc_pos _
    have hlr : (num n).length + r.length = l.length := by rw [hx]; simp
    show wire_Take.f k l = _
    unfold wire_Take.f
    rw [take_comes hb (by omega) k hk, ht]
    simp only [Option.bind_some]
    rw [if_neg (by omega), if_pos (by omega), if_pos (by omega), Int.toNat_natCast]
    have e : l.drop (num n).length = r := by rw [hx, List.drop_left]
    rw [e, clone_f (by omega)]
    rfl
/-- A sector's page; an error's number. -/
def decodeOf (b : List Int) : List Int × Option Int :=
  if b.length ≠ 512 then (none61, some 4)
  else if b = List.replicate 512 0 then (none61, none)
  else if (unboxOf b).2 ≠ none then (none61, some 4)
  else if (takeOf (unboxOf b).1).2 = 0 then (none61, some 4)
  else if ((unboxOf b).1.drop (takeOf (unboxOf b).1).2.toNat).length ≠ 480 then (none61, some 4)
  else ((takeOf (unboxOf b).1).1 :: cellsOf ((unboxOf b).1.drop (takeOf (unboxOf b).1).2.toNat), none)
theorem decode_err {b : List Int} (h : (decodeOf b).2 ≠ none) : decodeOf b = (none61, some 4) := by
  revert h
  unfold decodeOf
  repeat' split
  all_goals intro h
  all_goals first | rfl | exact absurd rfl h
theorem decode_page (b : List Int) : (decodeOf b).1.length = 61 := by
  unfold decodeOf
  repeat' split
  all_goals simp [none61, cells_len]
/-- The first two bytes behind the sum are not 0. -/
theorem encode_head {n : Int} {l : List Int} (hn : I64 n) (hl : l.length = 60) : rd (encodeOf n l) 4 = 1 ∧ rd (encodeOf n l) 5 ≠ 0 := by
  obtain ⟨_, _, _, _, h5⟩ := boxOf_ok (encode_ok hn hl)
  have hf := encode_fit hn hl
  have e4 : rd (encodeOf n l) 4 = (((num n ++ eights l 60).length : Int) / 256) % 256 := by unfold encodeOf; rw [h5]; rfl
  have e5 : rd (encodeOf n l) 5 = ((num n ++ eights l 60).length : Int) % 256 := by unfold encodeOf; rw [h5]; rfl
  rw [e4, e5]
  omega
theorem rd_rep (m : Nat) (i : Int) : rd (List.replicate m 0) i = 0 := by
  unfold rd
  rw [List.getD_eq_getElem?_getD, List.getElem?_replicate]
  split <;> rfl
theorem encode_nil {n : Int} {l : List Int} (hn : I64 n) (hl : l.length = 60) : encodeOf n l ≠ List.replicate 512 0 := fun h => by
  have := (encode_head hn hl).1
  rw [h, rd_rep] at this
  omega
/-- Pages come back. -/
theorem decode_encode {n : Int} {l : List Int} (hn : I64 n) (hl : l.length = 60) (hI : ∀ x ∈ l, I64 x) : decodeOf (encodeOf n l) = (n :: l, none) := by
  have hu : unboxOf (encodeOf n l) = (num n ++ eights l 60, none) := unbox_box (encode_ok hn hl)
  have ht : takeOf (num n ++ eights l 60) = (n, ((num n).length : Int)) := take_num hn _
  have hp : 0 < (num n).length := enc_pos _
  unfold decodeOf
  rw [if_neg (by rw [encode_len hn hl]; decide), if_neg (encode_nil hn hl), hu]
  simp only [ht, Int.toNat_natCast, List.drop_left]
  rw [if_neg (by decide), if_neg (by omega), if_neg (by rw [eights_480 hl]; decide), cells_eights hl hI]
/-- What is decoded is of such a form. -/
theorem decode_ok {b : List Int} (hb : Bytes b) (h : (decodeOf b).2 = none) : (decodeOf b).1 = none61 ∧ b = List.replicate 512 0 ∨ ∃ n l, I64 n ∧ l.length = 60 ∧ (∀ x ∈ l, I64 x) ∧ (decodeOf b).1 = n :: l ∧ encodeOf n l = b := by
  unfold decodeOf at h ⊢
  by_cases h1 : b.length ≠ 512
  · rw [if_pos h1] at h; cases h
  rw [if_neg h1] at h ⊢
  by_cases h2 : b = List.replicate 512 0
  · rw [if_pos h2]; exact Or.inl ⟨rfl, h2⟩
  rw [if_neg h2] at h ⊢
  by_cases h3 : (unboxOf b).2 ≠ none
  · rw [if_pos h3] at h; cases h
  rw [if_neg h3] at h ⊢
  by_cases h4 : (takeOf (unboxOf b).1).2 = 0
  · rw [if_pos h4] at h; cases h
  rw [if_neg h4] at h ⊢
  by_cases h5 : ((unboxOf b).1.drop (takeOf (unboxOf b).1).2.toNat).length ≠ 480
  · rw [if_pos h5] at h; cases h
  rw [if_neg h5] at h ⊢
  right
  have h3' : (unboxOf b).2 = none := by simpa using h3
  have hbox : boxOf 512 (unboxOf b).1 = (b, none) := by
    have hl : b.length = 512 := by omega
    revert h3'
    unfold unboxOf
    split
    · intro h; cases h
    split
    · intro h; cases h
    split
    · rename_i hh
      intro _
      rw [hl] at hh
      exact hh
    · intro h; cases h
  have hub : Bytes (unboxOf b).1 := by
    unfold unboxOf
    repeat' split
    all_goals first | exact Bytes.nil | exact (hb.take _).drop _
  generalize (unboxOf b).1 = inn at *
  obtain ⟨n, r, hn, hx, ht⟩ := take_inv hub h4
  have hd : inn.drop (takeOf inn).2.toNat = r := by rw [ht]; simp only [Int.toNat_natCast]; rw [hx, List.drop_left]
  rw [hd] at h5 ⊢
  rw [ht]
  have hr : r.length = 480 := by omega
  have hrb : Bytes r := by rw [hx] at hub; exact hub.right
  refine ⟨n, cellsOf r, hn, cells_len r, cells_i64 r, rfl, ?_⟩
  unfold encodeOf
  rw [eights_cells hr hrb, ← hx, hbox]
theorem rd_set_other (L : List Int) (i : Nat) (y : Int) (j : Int) (h : j.toNat ≠ i) : rd (L.set i y) j = rd L j := by
  unfold rd
  rw [List.getD_eq_getElem?_getD, List.getD_eq_getElem?_getD, List.getElem?_set_ne (by omega)]
/-- A page's sector with one byte changed is none. -/
theorem decode_change {n : Int} {l : List Int} (hn : I64 n) (hl : l.length = 60) {i : Nat} (hi : i < (encodeOf n l).length) {y : Int} (hy : 0 ≤ y ∧ y < 256) (hne : (encodeOf n l)[i] ≠ y) : decodeOf ((encodeOf n l).set i y) = (none61, some 4) := by
  have hu := unbox_change (fl_bytes n l) (encode_ok hn hl) (i := i) hi hy hne
  change unboxOf ((encodeOf n l).set i y) = _ at hu
  unfold decodeOf
  by_cases h2 : (encodeOf n l).set i y = List.replicate 512 0
  · exfalso
    have hh := encode_head hn hl
    by_cases h4 : i = 4
    · have h5 := rd_set_other (encodeOf n l) i y 5 (by omega)
      rw [h2, rd_rep] at h5
      exact hh.2 h5.symm
    · have h5 := rd_set_other (encodeOf n l) i y 4 (by omega)
      rw [h2, rd_rep] at h5
      omega
  · rw [List.length_set, encode_len hn hl, if_neg (by decide), if_neg h2, hu, if_pos (by decide)]
end Go.Proofs.Ytbphmpncajfaiaa.M
/- page.Decode (function 37). -/
namespace Go.Proofs.Ytbphmpncajfaiaa.K
open Go.RowKit Go.Proofs.Ytbphmpncajfaiaa.M Go.Proofs.Ytbphmpncajfaiaa.Py Go.Proofs.YtbphmpncajfaiaaW.PrintWords Go.Proofs.YtbphmpncajfaiaaW.PrintLast Go.Proofs.YtbphmpncajfaiaaW.PrintMore
set_option linter.unusedVariables false
set_option linter.unusedSimpArgs false
theorem dec_far {W w1 : World} {g base : Nat} {l xs : List Int} {v : Value} {ok : Nat → Prop} (hp : Page W g l) (h : Kd.R (Kd.int .u8) 5 W base ok v xs) (hg : W.grownBy w1 (some g)) : Kd.R (Kd.int .u8) 5 w1 base ok v xs :=
  Kd.R_grown1 h rfl hg (Kd.R_ne h hp.1 (by decide))
theorem grown_setCell (w : World) (g i : Nat) (v : Value) : w.grownBy (w.setCell ⟨g, i, none⟩ v) (some g) :=
  ⟨rfl, rfl, rfl, by simp [World.setCell], fun k hk hne => Below.heap_setCell w ⟨g, i, none⟩ v k (fun e => hne (by rw [e]))⟩
set_option maxHeartbeats 8000000 in
set_option maxRecDepth 100000 in
/-- A page. -/
theorem decode_fine (ad : Addr) (c : Nat) (b : List Int) (w : World) (hC : Kd.C (Kd.int .u8) w (some ad) b.length b) (hc : b.length ≤ c) (h : b.length = 512) (ct : Nat) (hz0 : Lib.countByte (Lib.bytesOf b) 0 = ct) (hct : ct ≠ 512) (K1 : Nat) (inn : List Int) (h1 : wire_Unbox.f K1 b = some (inn, none)) (K2 : Nat) (n : Int) (rs : List Int) (h2 : wire_Take.f K2 inn = some (n, rs, none)) (hrs : rs.length = 480) :
    Calls Try.prog 37 #[.slice (some ad) b.length c] w fun e w' => e = .returned (.tuple #[.agg (pg (n :: cellsOf rs)), .nilIface]) ∧ Below w.heap.size w w' := by
  have HB := Aside0.mk (Below.refl w.heap.size w)
  have HC := Aside0.mk hC
  have HZ := Aside0.mk hz0
  have LC := Aside0.mk hc
  have A1 := Aside0.mk h1
  have A2 := Aside0.mk h2
  have c1 : ((b.length : Int) != 512) = false := by simp; omega
  have c2 : ((ct : Int) == (b.length : Int)) = false := by simp; omega
  obtain ⟨z8, hz⟩ : ∃ z : List Int, z = n :: List.replicate 60 0 := ⟨_, rfl⟩
  have N8 := Aside0.mk hz
  have HRL := Aside0.mk hrs
  have c3 : ((rs.length : Int) != 480) = false := by simp; omega
  have HL := Aside0.mk h
  clear hC hc hz hz0 h h1 hct h2 hrs
  go_enter Try.func37, Try.ntmps37
  go_wp2_with (first | ((with_reducible refine gate_dst (N := 2) rfl ?_); refine page_alloc rfl rfl ?_; intro g2 w2 hg hp hb; have HP := Aside0.mk hp; have G2 := Aside0.mk (show w.heap.size ≤ g2 by rw [hg]; exact Nat.le_refl _); replace HB := Aside0.mk (below_step HB.out hb); clear hp hb hg) | ((with_reducible refine gate_dst (N := 19) rfl ?_); refine Kd.R_lit (w0 := w2) (Kd.int .u8) w2.heap.size 5 ?hg (N := 19) ?hd (xs := ([0] : List Int)) (inner := [.int .u8 0]) (ok := fun _ => True) (okp := fun _ => True) ?hr ?hp (fun _ hk => hk) trivial (Below.refl _ _) (Nat.le_refl _) (by simp) ?_; (case hd => rfl); (case hg => rfl); (case hr => first | (go_simp; done) | (go_simp; rfl)); (case hp => exact (Reps.one (show Kd.M (Kd.int .u8) _ _ _ 0 [.int .u8 0] from rfl) (Reps.none _ _))); intro v_s w_s ho_ hb_ hg_ hnew_; obtain ⟨A_s, c_s, e_s⟩ := Kd.R_slice ho_; subst e_s; obtain ⟨g_s, e_s, _, _, _⟩ := R_form ho_ (by simp); subst e_s; have HCS := Aside0.mk (sep_cell ho_); replace HP := Aside0.mk (HP.out.below hb_); replace HB := Aside0.mk (below_step HB.out hb_); clear ho_ hb_ hg_ hnew_) | ((with_reducible refine gate_callee (f := 54) rfl ?_); (with_reducible refine gate_dst (N := 20) rfl ?_); refine goesL_ (some 20) rfl rfl Try.func54 (by kernel_rfl) rfl #[.slice (some ad) b.length c, .slice (some ⟨g_s, 0, none⟩) 1 c_s] rfl (by (try simp only [List.map_toArray, List.map_cons, List.map_nil]); first | done | rfl) ?_; (refine (count_calls ad c c_s b ⟨g_s, 0, none⟩ _ (Kd.C_below HC.out HB.out) HCS.out).mono ?_); rintro e w_ct ⟨rfl, rfl⟩; refine ⟨_, rfl, ?_⟩; rw [HZ.out]) | ((with_reducible refine gate_callee (f := 29) rfl ?_); (with_reducible refine gate_dst (N := 27) rfl ?_); refine goesL_ (some 27) rfl rfl Try.func29 (by kernel_rfl) rfl #[.slice (some ad) b.length c] rfl (by (try simp only [List.map_toArray, List.map_cons, List.map_nil]); first | done | rfl) ?_; (refine (wire_Unbox.calls K1 _ _ b inn none _ ?side1 ?side2 A1.out).mono ?_); (case side1 => exact Kd.C_below HC.out HB.out); (case side2 => exact LC.out); rintro e w_ub ⟨v_ub, rfl, ho_, hb_⟩; refine ⟨_, rfl, ?_⟩; have HU := Aside0.mk (Kd.R_lower ho_ (below_size HB.out)); replace HP := Aside0.mk (HP.out.below hb_); replace HB := Aside0.mk (below_step HB.out hb_); clear ho_ hb_; obtain ⟨A_u, c_u, e_u⟩ := Kd.R_slice HU.out; subst e_u; (try simp only [errW_none, errW_some])) | ((with_reducible refine gate_callee (f := 32) rfl ?_); (with_reducible refine gate_dst (N := 36) rfl ?_); refine goesL_ (some 36) rfl rfl Try.func32 (by kernel_rfl) rfl #[.slice A_u inn.length c_u] rfl (by (try simp only [List.map_toArray, List.map_cons, List.map_nil]); first | done | rfl) ?_; (refine (wire_Take.calls K2 _ _ inn n rs none _ ?side1 ?side2 A2.out).mono ?_); (case side1 => exact (Kd.R_reads' HU.out).2.2); (case side2 => exact (Kd.R_reads' HU.out).2.1); rintro e w_tk ⟨v_tk, rfl, ho_, hb_⟩; refine ⟨_, rfl, ?_⟩; have HT := Aside0.mk (Kd.R_lower ho_ (below_size HB.out)); replace HP := Aside0.mk (HP.out.below hb_); replace HB := Aside0.mk (below_step HB.out hb_); clear ho_ hb_; obtain ⟨A_t, c_t, e_t⟩ := Kd.R_slice HT.out; subst e_t; (try simp only [errW_none, errW_some])) | ((with_reducible refine gate_dst (N := 50) rfl ?_); refine page_build rfl _ n rfl rfl z8 N8.out ?_) | ((with_reducible refine gate_dst (N := 8) rfl ?_); refine page_alloc rfl rfl ?_; intro g8 w8 hg hp hb; have HP8 := Aside0.mk hp; have HNE := Aside0.mk (show g2 < g8 by rw [hg]; exact HP.out.lt); have G8 := Aside0.mk (show w.heap.size ≤ g8 by rw [hg]; exact below_size HB.out); replace HP := Aside0.mk (HP.out.below hb); replace HT := Aside0.mk (Kd.R_below HT.out hb); replace HB := Aside0.mk (below_step HB.out hb); clear hp hb hg) | (refine page_store rfl rfl (.tmp 8) (.tmp 50) rfl g8 _ z8 rfl rfl HP8.out (by rw [N8.out]; simp) ?_; intro w9 hp hg; replace HT := Aside0.mk (dec_far HP8.out HT.out hg); replace HP8 := Aside0.mk hp; replace HP := Aside0.mk (HP.out.grown hg (fun e => by injection e with e; have := HNE.out; omega)); replace HB := Aside0.mk (page_below HB.out hg G8.out); clear hp hg))
  go_loopg [51] 60 (fun kq v51 w' => ∃ x : Int, v51 = .int .i64 x ∧ Aside0 (0 ≤ x ∧ x ≤ 60 ∧ kq + x.toNat = 60) ∧ Aside0 (Page w' g8 (uptoF n (fun i => wrap64 (word (segOf rs i) 8)) x.toNat)) ∧ Aside0 (Page w' g2 (List.replicate 61 0)) ∧ Aside0 (Kd.R (Kd.int .u8) 5 w' w.heap.size (fun _ => True) (.slice A_t rs.length c_t) rs) ∧ Aside0 (Below w.heap.size w w'))
  case atStart => exact ⟨0, rfl, ⟨by omega⟩, ⟨by rw [show (0 : Int).toNat = 0 from rfl, uptoF_zero, ← N8.out]; exact HP8.out⟩, HP, HT, HB⟩
  case round =>
    clear HT HP HB HP8
    obtain ⟨x, rfl, HX, HP8, HP, HT, HB⟩ := hrel
    obtain ⟨hx0, hx1, hxk⟩ := HX.out
    by_cases hlt : x < 60
    · obtain ⟨k1, rfl⟩ : ∃ k1, gk = k1 + 1 := ⟨gk - 1, by omega⟩
      have HXK := Aside0.mk hxk
      have c1 : decide (x < 60) = true := decide_eq_true hlt
      have HRM := Aside0.mk (Kd.R_reads' HT.out).2.1
      obtain ⟨i0, hi0, _, hsz, _⟩ := info_parts info5
      obtain ⟨A_c, hcut, hA_c, hcc⟩ := print_mid_of (P := Try.prog) (Value.int .u8) (0 : Int) 22 5 .i64 .i64 Try.underlying22 hi0 hsz A_t c_t rs (8 * x) (8 * x + 8) (by omega) (by omega) (by have := HRL.out; omega) HRM.out
      have hlen : ((rs.take (8 * x + 8).toNat).drop (8 * x).toNat).length = 8 := by have := HRL.out; rw [List.length_drop, List.length_take]; omega
      rw [hlen] at hcut
      clear hlen
      have HAC := Aside0.mk (And.intro hA_c hcc)
      clear hA_c hcc hi0 hsz hxk HX
      obtain ⟨seg, hseg⟩ : ∃ s, s = (rs.take (8 * x + 8).toNat).drop (8 * x).toNat := ⟨_, rfl⟩
      rw [← hseg] at HAC
      have NS := Aside0.mk hseg
      clear hseg
      go_wp2
      have HSL := Aside0.mk (show seg.length = 8 by rw [NS.out]; have := HRL.out; rw [List.length_drop, List.length_take]; omega)
      have hrd := HAC.out.1 wr (Kd.reads_of_C (Kd.R_reads' HT.out).2.2)
      rw [HSL.out] at hrd
      have HRD := Aside0.mk hrd
      clear hrd
      go_loopg [10, 62] 8 (fun kq v10 v62 w' => ∃ (u j : Int), v10 = .int .u64 u ∧ v62 = .int .i64 j ∧ Aside0 (0 ≤ j ∧ j ≤ 8 ∧ kq + j.toNat = 8) ∧ Aside0 (u = word seg j.toNat) ∧ Aside0 (Below wr.heap.size wr w'))
      case atStart => exact ⟨0, 0, rfl, rfl, ⟨by omega⟩, ⟨rfl⟩, ⟨Below.refl _ _⟩⟩
      case round =>
        obtain ⟨u, j, rfl, rfl, HJ, HU, HQ⟩ := hrel
        obtain ⟨hj0, hj1, hjk⟩ := HJ.out
        by_cases hlt2 : j < 8
        · obtain ⟨k2, rfl⟩ : ∃ k2, gk = k2 + 1 := ⟨gk - 1, by omega⟩
          have c4 : decide (j < 8) = true := decide_eq_true hlt2
          have q0 := eq_true hj0
          have q1 := eq_true hlt2
          obtain ⟨ad2, hA2, hcell0⟩ := ReadsOf.at_ HRD.out j hj0 (by omega)
          have hs : seg[j.toNat]? = some (rdOf 0 seg j) := by
            unfold rdOf
            rw [List.getD_eq_getElem?_getD, List.getElem?_eq_getElem (show j.toNat < seg.length by have := HSL.out; omega)]
            rfl
          have HS := Aside0.mk hs
          clear hs
          subst hA2
          have hcell := (HQ.out.cell (World.block_lt_of_cell? _ _ hcell0)).trans hcell0
          clear hcell0
          have HJ2 := Aside0.mk hjk
          clear hjk HJ
          go_wp2
          go_roundg k2
          case measure => omega
          case rel => exact ⟨_, j + 1, rfl, rfl, ⟨by have := HJ2.out; omega⟩, ⟨by rw [show (j + 1).toNat = j.toNat + 1 by omega, word_succ seg _ _ HS.out, ← HU.out]⟩, HQ⟩
        · obtain rfl : j = 8 := by omega
          have c4 : decide ((8 : Int) < 8) = false := by decide
          have HP8' := Aside0.mk (HP8.out.below HQ.out)
          have HP' := Aside0.mk (HP.out.below HQ.out)
          have HT' := Aside0.mk (Kd.R_below HT.out HQ.out)
          have HB' := Aside0.mk (below_step HB.out HQ.out)
          clear HP8 HP HT HB
          obtain ⟨old, hold⟩ : ∃ y, (uptoF n (fun i => wrap64 (word (segOf rs i) 8)) x.toNat)[1 + x.toNat]? = some y := ⟨_, List.getElem?_eq_getElem (by rw [uptoF_len]; omega)⟩
          have hpc := HP8'.out.cell (1 + x.toNat) old hold
          have hpf := HP8'.out.free (1 + x.toNat)
          have q0 := eq_true hx0
          have q1 := eq_true hlt
          clear hold hjk HJ
          go_wp2
          have hseg : segOf rs x.toNat = seg := by
            rw [NS.out]
            unfold segOf
            rw [show (8 * x + 8).toNat = 8 * x.toNat + 8 by omega, show (8 * x).toNat = 8 * x.toNat by omega]
          have hu : wrap64 u = wrap64 (word (segOf rs x.toNat) 8) := by rw [hseg, HU.out]; rfl
          have hs := HP8'.out.set (1 + x.toNat) (wrap64 u)
          rw [hu, uptoF_step n (fun i => wrap64 (word (segOf rs i) 8)) x.toNat (by omega), show x.toNat + 1 = (x + 1).toNat by omega, ← hu] at hs
          have hg := Page.far HP'.out (g' := g8) (by have := HNE.out; omega) (1 + x.toNat) (.int .i64 (wrap64 u))
          have hgr := grown_setCell wr g8 (1 + x.toNat) (.int .i64 (wrap64 u))
          go_roundg k1
          case measure => omega
          case rel => exact ⟨x + 1, rfl, ⟨by have := HXK.out; omega⟩, ⟨hs⟩, ⟨hg⟩, ⟨dec_far HP8'.out HT'.out hgr⟩, ⟨HB'.out.setCell G8.out _⟩⟩
    · have c1 : decide (x < 60) = false := decide_eq_false hlt
      obtain rfl : x = 60 := by omega
      clear hxk HX
      go_wp2_with (first | ((with_reducible refine gate_dst (N := 78) rfl ?_); refine page_load rfl _ rfl g8 _ rfl HP8.out ?_) | (refine page_store rfl rfl (.tmp 2) (.tmp 78) rfl g2 _ _ rfl rfl HP.out (uptoF_len _ _ _) ?_; intro w6 hp hg; replace HP := Aside0.mk hp; replace HB := Aside0.mk (page_below HB.out hg G2.out); clear hp hg))
      refine bodyPost_ret (results_page (p := 2) (q := 3) rfl _ _ g2 _ _ rfl rfl HP.out) rfl ?_
      exact ⟨by rw [show (60 : Int).toNat = 60 from rfl, uptoF_full]; rfl, HB.out⟩
end Go.Proofs.Ytbphmpncajfaiaa.K
/- page.Encode and page.Decode as pure functions. -/
namespace Go.Proofs.Ytbphmpncajfaiaa.K
open Go.RowKit Go.Proofs.Ytbphmpncajfaiaa.M Go.Proofs.Ytbphmpncajfaiaa.Py Go.Proofs.YtbphmpncajfaiaaW.PrintWords Go.Proofs.YtbphmpncajfaiaaW.PrintLast Go.Proofs.YtbphmpncajfaiaaW.PrintMore
set_option linter.unusedVariables false
set_option linter.unusedSimpArgs false
theorem count_all {b : List Int} (hb : Bytes b) (hl : b.length = 512) : Lib.countByte (Lib.bytesOf b) 0 = 512 ↔ b = List.replicate 512 0 := by
  unfold Lib.countByte
  constructor
  · intro h
    have hn : (Lib.bytesOf b).length = 512 := by simp [Lib.bytesOf, hl]
    rw [← hn, List.count_eq_length] at h
    apply List.eq_replicate_iff.2 ⟨hl, fun x hx => ?_⟩
    have h2 := h (UInt8.ofNat x.toNat) (by simp only [Lib.bytesOf, List.mem_map]; exact ⟨x, hx, rfl⟩)
    have h3 := hb x hx
    have h4 : (UInt8.ofNat x.toNat).toNat = (0 : UInt8).toNat := by rw [← h2]
    rw [UInt8.toNat_ofNat', UInt8.toNat_zero] at h4
    omega
  · rintro rfl
    unfold Lib.bytesOf
    rw [List.map_replicate]
    exact List.count_replicate_self
theorem decode_calls (A : Option Addr) (c : Nat) (b : List Int) (w : World) (hC : Kd.C (Kd.int .u8) w A b.length b) (hc : b.length ≤ c) (hb : Bytes b) :
    Calls Try.prog 37 #[.slice A b.length c] w fun e w' => e = .returned (.tuple #[.agg (pg (decodeOf b).1), errW (decodeOf b).2]) ∧ Below w.heap.size w w' := by
  by_cases h1 : b.length = 512
  · obtain ⟨ad, rfl⟩ : ∃ ad, A = some ad := by
      have h := hC
      cases A with
      | none =>
        obtain ⟨a, ha, _⟩ := Kd.at_int h 0 (by omega) (by omega)
        cases ha
      | some b => exact ⟨b, rfl⟩
    by_cases h2 : b = List.replicate 512 0
    · have e : decodeOf b = (none61, none) := by
        unfold decodeOf
        rw [if_neg (by omega), if_pos h2]
      rw [e]
      exact decode_blank ad c b w hC hc h1 ((count_all hb h1).2 h2)
    · have hct : Lib.countByte (Lib.bytesOf b) 0 ≠ 512 := fun h => h2 ((count_all hb h1).1 h)
      rcases unbox_two b with h3 | h3
      · obtain ⟨K1, hk1⟩ := unbox_comes hb (by omega)
        have hk1 := hk1 K1 (Nat.le_refl _)
        have hub : Bytes (unboxOf b).1 := by
          unfold unboxOf
          repeat' split
          all_goals first | exact Bytes.nil | exact (hb.take _).drop _
        have hul : (unboxOf b).1.length ≤ 512 := by
          unfold unboxOf
          repeat' split
          all_goals first | exact Nat.zero_le _ | (rw [List.length_drop, List.length_take]; omega)
        obtain ⟨K2, hk2⟩ := take_dec hub (by omega)
        have hk2 := hk2 K2 (Nat.le_refl _)
        have h4 : (unboxOf b).2 = none := by rw [h3]
        have e : decodeOf b = if (takeOf (unboxOf b).1).2 = 0 then (none61, some 4) else if ((unboxOf b).1.drop (takeOf (unboxOf b).1).2.toNat).length ≠ 480 then (none61, some 4) else ((takeOf (unboxOf b).1).1 :: cellsOf ((unboxOf b).1.drop (takeOf (unboxOf b).1).2.toNat), none) := by
          unfold decodeOf
          rw [if_neg (by omega), if_neg h2, if_neg (by rw [h4]; simp)]
        rw [e]
        dsimp only at hk1 hk2
        rw [h3] at hk1
        generalize (unboxOf b).1 = inn at *
        by_cases h5 : (takeOf inn).2 = 0
        · rw [if_pos h5] at hk2 ⊢
          exact decode_nonum ad c b w hC hc h1 _ rfl hct K1 inn hk1 K2 _ _ _ hk2 (Or.inl rfl)
        · rw [if_neg h5] at hk2 ⊢
          by_cases h6 : (inn.drop (takeOf inn).2.toNat).length ≠ 480
          · rw [if_pos h6]
            exact decode_nonum ad c b w hC hc h1 _ rfl hct K1 inn hk1 K2 _ _ _ hk2 (Or.inr ⟨rfl, h6⟩)
          · rw [if_neg h6]
            exact decode_fine ad c b w hC hc h1 _ rfl hct K1 inn hk1 K2 _ _ hk2 (by omega)
      · have e : decodeOf b = (none61, some 4) := by
          unfold decodeOf
          rw [if_neg (by omega), if_neg h2, h3, if_pos (by simp)]
        obtain ⟨K1, hk1⟩ := unbox_comes hb (by omega)
        have hk1 := hk1 K1 (Nat.le_refl _)
        dsimp only at hk1
        rw [h3] at hk1
        rw [e]
        exact decode_nobox ad c b w hC hc h1 _ rfl hct K1 [] 4 hk1
  · have e : decodeOf b = (none61, some 4) := by
      unfold decodeOf
      rw [if_pos h1]
    rw [e]
    exact decode_short A c b w hC hc h1
theorem encode_dec (n : Int) (l : List Int) (w : World) (hn : I64 n) (hl : l.length = 60) :
    Calls Try.prog 39 #[.agg (pg (n :: l))] w fun e w' => ∃ v, e = .returned v ∧ Kd.R (Kd.int .u8) 5 w' w.heap.size (fun _ => True) v (encodeOf n l) ∧ Below w.heap.size w w' := by
  obtain ⟨K1, hk1⟩ := put_comes (acc := []) (l := [n]) (fun x hx => by simp at hx; subst hx; exact hn) (by simp) (by simp)
  have hk1 := hk1 K1 (Nat.le_refl _)
  have e1 : ([] : List Int) ++ M.nums [n] = num n := by simp [M.nums]
  dsimp only at hk1
  rw [e1] at hk1
  obtain ⟨K2, hk2⟩ := box_comes 512 (ls := [num n ++ eights l 60]) (fun x hx => by
    simp only [List.mem_singleton] at hx
    subst hx
    exact ⟨fl_bytes n l, by have := (encode_fit hn hl).1; omega⟩) (by simp)
  have hk2 := hk2 K2 (Nat.le_refl _)
  dsimp only at hk2
  rw [show [num n ++ eights l 60].flatten = num n ++ eights l 60 by simp, encode_box hn hl] at hk2
  exact encode_calls n l w hl K1 K2 _ _ hk1 (num_le hn) hk2
end Go.Proofs.Ytbphmpncajfaiaa.K
/- page.Diff (function 43). -/
namespace Go.Proofs.Ytbphmpncajfaiaa.K
open Go.RowKit Go.Proofs.YtbphmpncajfaiaaW.PrintWords Go.Proofs.YtbphmpncajfaiaaW.PrintLast Go.Proofs.YtbphmpncajfaiaaW.PrintMore
set_option linter.unusedVariables false
set_option linter.unusedSimpArgs false
/-- An image: a cell and a value. -/
def kdI : Kd (Int × Int) := Kd.pair (Kd.int .i64) (Kd.int .i64)
theorem info84 : (Try.prog.info? 84).map (fun i => (i.zero, i.size, i.bytes)) = some (some (.agg #[.int .i64 0, .int .i64 0]), 2, 16) := by kernel_rfl
theorem built84 (i n : Int) : Try.prog.built 84 [(0, .int .i64 i), (1, .int .i64 n)] = some #[.int .i64 i, .int .i64 n] := by kernel_rfl
section
variable {ops : Array Oper} {rest : List Oper} {o : Oper} {a : Act} {Q : Exit → Act → World → Prop}
theorem img_build {W : World} (hgd : o.guard = none) (x y : Operand) (i n : Int) (ho : o.op = .build 84 #[(0, x), (1, y)]) (hx : a.eval x = .int .i64 i) (hy : a.eval y = .int .i64 n) (h : wpList Try.prog ops Q rest (a.put o.dst (.agg #[.int .i64 i, .int .i64 n])) W) : wpList Try.prog ops Q (o :: rest) a W := by
  refine Kd.event_run hgd (v := .agg #[.int .i64 i, .int .i64 n]) (w1 := W) ?_ h
  have := run_build (P := Try.prog) W 84 #[(0, .int .i64 i), (1, .int .i64 n)] _ (built84 i n)
  simp [execOp, ho, hx, hy, this, Sem.run_bind]
end
/-- In which of the first x cells two pages differ. -/
def diffOf (a b : List Int) (x : Nat) : List (Int × Int) := (List.range x).filterMap (fun (i : Nat) => if rd a (i : Int) ≠ rd b (i : Int) then some ((i : Int), rd a (i : Int)) else none)
theorem diff_len (a b : List Int) (x : Nat) : (diffOf a b x).length ≤ x := by
  unfold diffOf
  exact Nat.le_trans (List.length_filterMap_le _ _) (by simp)
theorem diff_succ (a b : List Int) (x : Nat) : diffOf a b (x + 1) = diffOf a b x ++ (if rd a x ≠ rd b x then [((x : Int), rd a x)] else []) := by
  unfold diffOf
  rw [List.range_succ, List.filterMap_append]
  congr 1
  simp only [List.filterMap_cons, List.filterMap_nil]
  by_cases h : rd a x = rd b x
  · rw [if_neg (by simp [h]), if_neg (by simp [h])]
  · rw [if_pos h, if_pos h]
theorem rd_at {l : List Int} {i : Int} (h0 : 0 ≤ i) (h1 : i < l.length) : l[i.toNat]? = some (rd l i) := by
  unfold rd
  rw [List.getD_eq_getElem?_getD, List.getElem?_eq_getElem (by omega)]
  rfl
set_option maxHeartbeats 8000000 in
set_option maxRecDepth 100000 in
theorem diff_calls (m n : Int) (a b : List Int) (w : World) (ha : a.length = 60) (hb : b.length = 60) :
    Calls Try.prog 43 #[.agg (pg (m :: a)), .agg (pg (n :: b))] w fun e w' => ∃ v, e = .returned v ∧ Kd.R kdI 84 w' w.heap.size (fun _ => True) v (diffOf a b 60) ∧ Below w.heap.size w w' := by
  have HA := Aside0.mk ha
  have HL := Aside0.mk hb
  have HB := Aside0.mk (Below.refl w.heap.size w)
  obtain ⟨p, hp⟩ : ∃ p, p = m :: a := ⟨_, rfl⟩
  obtain ⟨q, hq⟩ : ∃ q, q = n :: b := ⟨_, rfl⟩
  have NP := Aside0.mk hp
  have NQ := Aside0.mk hq
  rw [← hp, ← hq]
  clear ha hb hp hq
  go_enter Try.func43, Try.ntmps43
  go_wp2_with (first | ((with_reducible refine gate_dst (N := 2) rfl ?_); refine page_box rfl _ rfl p (by rw [NP.out, List.length_cons, HA.out]) rfl ?_; intro g2 w2 hg hp hb; have HP2 := Aside0.mk (show Page w2 g2 (m :: a) by rw [← NP.out]; exact hp); replace HB := Aside0.mk (below_step HB.out hb); clear hp hb hg) | ((with_reducible refine gate_dst (N := 3) rfl ?_); refine page_box rfl _ rfl q (by rw [NQ.out, List.length_cons, HL.out]) rfl ?_; intro g3 w3 hg hp hb; have G3 := Aside0.mk (show w.heap.size ≤ g3 by rw [hg]; exact below_size HB.out); have HP3 := Aside0.mk (show Page w3 g3 (n :: b) by rw [← NQ.out]; exact hp); replace HP2 := Aside0.mk (HP2.out.below hb); replace HB := Aside0.mk (below_step HB.out hb); clear hp hb hg) | ((with_reducible refine gate_dst (N := 9) rfl ?_); refine page_cells rfl _ rfl g2 m a rfl HP2.out ?_))
  have HO := Aside0.mk (Kd.R_nil kdI 84 w3 w.heap.size (fun _ => True))
  go_loopg [5, 10] 60 (fun kq v5 v10 w' => ∃ x : Int, v10 = .int .i64 x ∧ Aside0 (0 ≤ x ∧ x ≤ 60 ∧ kq + x.toNat = 60) ∧ Aside0 (Kd.R kdI 84 w' w.heap.size (fun _ => True) v5 (diffOf a b x.toNat)) ∧ Aside0 (Page w' g3 (n :: b)) ∧ Aside0 (Below w.heap.size w w'))
  case atStart => exact ⟨0, rfl, ⟨by omega⟩, ⟨by rw [show diffOf a b (0 : Int).toNat = [] from rfl]; exact HO.out⟩, HP3, HB⟩
  case round =>
    clear HO HP2 HP3 HB
    obtain ⟨x, rfl, HX, HO, HP, HB⟩ := hrel
    obtain ⟨hx0, hx1, hxk⟩ := HX.out
    by_cases hlt : x < 60
    · obtain ⟨k1, rfl⟩ : ∃ k1, gk = k1 + 1 := ⟨gk - 1, by omega⟩
      have HXK := Aside0.mk hxk
      have c1 : decide (x < 60) = true := decide_eq_true hlt
      have hcl := HP.out.cell (1 + x.toNat) (rd b x) (by rw [show 1 + x.toNat = x.toNat + 1 by omega, List.getElem?_cons_succ]; exact rd_at hx0 (by rw [HL.out]; omega))
      have q0 := eq_true hx0
      have q1 := eq_true hlt
      have ds := diff_succ a b x.toNat
      rw [show ((x.toNat : Nat) : Int) = x by omega] at ds
      clear hxk HX
      by_cases hne : rd a x = rd b x
      · have c2 : (rd a x != rd b x) = false := by simp [hne]
        rw [if_neg (by simp [hne]), List.append_nil] at ds
        have DS := Aside0.mk ds
        clear ds hne
        go_wp2_with (first | ((with_reducible refine gate_dst (N := 13) rfl ?_); refine page_index rfl _ _ rfl a x HA.out rfl rfl hx0 hlt ?_))
        go_roundg k1
        case measure => omega
        case rel => exact ⟨x + 1, rfl, ⟨by have := HXK.out; omega⟩, ⟨by rw [show (x + 1).toNat = x.toNat + 1 by omega, DS.out]; exact HO.out⟩, HP, HB⟩
      · have c2 : (rd a x != rd b x) = true := by simp [hne]
        rw [if_pos hne] at ds
        have DS := Aside0.mk ds
        have DL := Aside0.mk (diff_len a b x.toNat)
        clear ds hne
        obtain ⟨d, hd⟩ : ∃ d, d = diffOf a b x.toNat := ⟨_, rfl⟩
        rw [← hd] at HO DL
        have ND := Aside0.mk hd
        have HN := Aside0.mk (Kd.R_ne HO.out HP.out.1 (by decide))
        clear hd
        go_wp2_with (first | ((with_reducible refine gate_dst (N := 13) rfl ?_); refine page_index rfl _ _ rfl a x HA.out rfl rfl hx0 hlt ?_) | ((with_reducible refine gate_dst (N := 23) rfl ?_); refine img_build rfl _ _ x (rd a x) rfl rfl rfl ?_) | ((with_reducible refine gate_builtin (b := .append) (xs := #[.tmp 20, .tmp 24]) rfl ?_); at_builtin; refine Kd.R_append kdI (w0 := w) w.heap.size rfl (.tmp 20) (.tmp 24) 80 84 (.agg #[.int .i64 0, .int .i64 0]) 16 rfl Try.underlying80 info84 rfl (by decide) (by omega) u5 d (x, rd a x) [.int .i64 x, .int .i64 (rd a x)] (fun _ => True) (fun _ => False) rfl rfl ?aP (fun _ hk => hk.elim) ?aF ?aO ?aB ?aS ?aL ?_; (case aP => exact ⟨[_], [_], rfl, rfl, rfl⟩); (case aB => exact HB.out); (case aF => exact (fun _ _ => trivial)); (case aO => exact HO.out); (case aS => exact below_size HB.out); (case aL => have := DL.out; omega); intro v1 w1 ho hb hg hat; replace HO := Aside0.mk ho; replace HP := Aside0.mk (HP.out.grown hg HN.out); replace HB := Aside0.mk hb; clear ho hb hg hat))
        go_roundg k1
        case measure => omega
        case rel => exact ⟨x + 1, rfl, ⟨by have := HXK.out; omega⟩, ⟨by rw [show (x + 1).toNat = x.toNat + 1 by omega, DS.out, ← ND.out]; exact HO.out⟩, HP, HB⟩
    · have c1 : decide (x < 60) = false := decide_eq_false hlt
      obtain rfl : x = 60 := by omega
      clear hxk HX
      go_wp2
      go_ret
      exact ⟨_, rfl, HO.out, HB.out⟩
end Go.Proofs.Ytbphmpncajfaiaa.K
/- More words for pages: compared, decoded as known; an image that is read. -/
namespace Go.Proofs.Ytbphmpncajfaiaa.K
open Go.RowKit Go.Proofs.Ytbphmpncajfaiaa.M Go.Proofs.Ytbphmpncajfaiaa.Py Go.Proofs.YtbphmpncajfaiaaW.PrintWords Go.Proofs.YtbphmpncajfaiaaW.PrintLast Go.Proofs.YtbphmpncajfaiaaW.PrintMore
set_option linter.unusedVariables false
set_option linter.unusedSimpArgs false
theorem page_same {p q : List Int} (hp : p.length = 61) (hq : q.length = 61) (w : World) : (Op.equalIn 10000 65 (.agg (pg p)) (.agg (pg q))).run Try.prog w = .ok (decide (p = q)) w := by
  match p, q, hp, hq with
  | x :: a, y :: b, hp, hq =>
    rw [run_eq65 w x y a b (by simpa using hp) (by simpa using hq)]
    simp
theorem guard65 (op : BinOp) (x y : Operand) (w : World) (a b : Array Value) : (eqGuard op 65 x y (.agg a) (.agg b)).run Try.prog w = .ok () w := run_eqGuard_agg w op 65 x y a b (by kernel_rfl)
theorem guard84 (op : BinOp) (x y : Operand) (w : World) (a b : Array Value) : (eqGuard op 84 x y (.agg a) (.agg b)).run Try.prog w = .ok () w := run_eqGuard_agg w op 84 x y a b (by kernel_rfl)
theorem fields84 : Try.prog.fieldsOf 84 = #[{ name := "Cell", type := 3, offset := 0, embedded := false, tag := "", pkgPath := "", byteOffset := 0 }, { name := "Value", type := 3, offset := 1, embedded := false, tag := "", pkgPath := "", byteOffset := 8 }] := by kernel_rfl
theorem img_same (i n j m : Int) (w : World) : (Op.equalIn 10000 84 (.agg #[.int .i64 i, .int .i64 n]) (.agg #[.int .i64 j, .int .i64 m])).run Try.prog w = .ok (decide (i = j ∧ n = m)) w := by
  rw [run_equalIn_struct w 9999 84 _ _ (by rw [fields84]; exact Try.underlying84) (by kernel_rfl), fields84]
  simp only [Op.eqFields, Sem.run_bind]
  rw [if_pos (by decide)]
  simp only [Op.eqFields, Sem.run_bind, run_part3 _ #[.int .i64 i, .int .i64 n] 0 (.int .i64 i) rfl, run_part3 _ #[.int .i64 j, .int .i64 m] 0 (.int .i64 j) rfl, Result.andThen_ok, run_equalIn_int w 9998 3 .i64 .i64 i j Try.underlying3]
  by_cases h : i = j
  · subst h
    simp only [beq_self_eq_true, Bool.not_true, Bool.false_eq_true, if_false, true_and]
    rw [if_pos (by decide)]
    simp only [Sem.run_bind, run_part3 _ #[.int .i64 i, .int .i64 n] 1 (.int .i64 n) rfl, run_part3 _ #[.int .i64 i, .int .i64 m] 1 (.int .i64 m) rfl, Result.andThen_ok, run_equalIn_int w 9998 3 .i64 .i64 n m Try.underlying3]
    by_cases h : n = m
    · simp [h]
    · simp [h]
  · simp [h]
section
variable {ops : Array Oper} {rest : List Oper} {o : Oper} {a : Act} {Q : Exit → Act → World → Prop}
theorem page_eql {W : World} (hgd : o.guard = none) (x y : Operand) (ho : o.op = .binOp .eql 65 x y 65) (p q : List Int) (hx : a.eval x = .agg (pg p)) (hy : a.eval y = .agg (pg q)) (hp : p.length = 61) (hq : q.length = 61) (b : Bool) (hb : decide (p = q) = b) (h : wpList Try.prog ops Q rest (a.put o.dst (.bool b)) W) : wpList Try.prog ops Q (o :: rest) a W := by
  refine Kd.event_run hgd (v := .bool b) (w1 := W) ?_ h
  simp [execOp, ho, hx, hy, Sem.run_bind, guard65, run_eql_struct, page_same hp hq, hb]
theorem page_neq {W : World} (hgd : o.guard = none) (x y : Operand) (ho : o.op = .binOp .neq 65 x y 65) (p q : List Int) (hx : a.eval x = .agg (pg p)) (hy : a.eval y = .agg (pg q)) (hp : p.length = 61) (hq : q.length = 61) (b : Bool) (hb : decide (p = q) = b) (h : wpList Try.prog ops Q rest (a.put o.dst (.bool !b)) W) : wpList Try.prog ops Q (o :: rest) a W := by
  refine Kd.event_run hgd (v := .bool !b) (w1 := W) ?_ h
  simp [execOp, ho, hx, hy, Sem.run_bind, guard65, run_neq_struct, page_same hp hq, hb]
theorem img_eql {W : World} (hgd : o.guard = none) (x y : Operand) (ho : o.op = .binOp .eql 84 x y 84) (i n j m : Int) (hx : a.eval x = .agg #[.int .i64 i, .int .i64 n]) (hy : a.eval y = .agg #[.int .i64 j, .int .i64 m]) (b : Bool) (hb : decide (i = j ∧ n = m) = b) (h : wpList Try.prog ops Q rest (a.put o.dst (.bool b)) W) : wpList Try.prog ops Q (o :: rest) a W := by
  refine Kd.event_run hgd (v := .bool b) (w1 := W) ?_ h
  simp [execOp, ho, hx, hy, Sem.run_bind, guard84, run_eql_struct, img_same]
  rw [← hb]
  simp
theorem agg84 (w : World) : (isAgg 84).run Try.prog w = .ok true w := by
  unfold isAgg
  rw [Sem.run_bind, run_underlying Try.underlying84 w]
  rfl
theorem size84 : (Try.prog.info? 84).map (·.size) = some 2 := by kernel_rfl
theorem run_size84 (w : World) : (sizeOf 84).run Try.prog w = .ok 2 w := by
  have h := size84
  cases hq : Try.prog.info? 84 with
  | none => rw [hq] at h; cases h
  | some i =>
    rw [hq] at h
    simp only [Option.map_some, Option.some.injEq] at h
    simp [sizeOf, typeInfo, hq, h]
theorem img_load {W : World} (hgd : o.guard = none) (x : Operand) (ho : o.op = .load 84 x) (ad : Addr) (i n : Int) (hx : a.eval x = .pointer (some ad)) (h0 : W.cell? (ad.add 0) = some (.int .i64 i)) (h1 : W.cell? (ad.add 1) = some (.int .i64 n)) (h : wpList Try.prog ops Q rest (a.put o.dst (.agg #[.int .i64 i, .int .i64 n])) W) : wpList Try.prog ops Q (o :: rest) a W := by
  refine Kd.event_run hgd (v := .agg #[.int .i64 i, .int .i64 n]) (w1 := W) ?_ h
  have hr := run_loadCells_list (P := Try.prog) W ad [.int .i64 i, .int .i64 n] (fun j v hv => by
    match j, hv with
    | 0, hv => rw [h0]; simpa using hv
    | 1, hv => rw [h1]; simpa using hv)
  simp only [execOp, ho, hx, Instr.loadAt, Instr.sureAddr, loadVar, Sem.run_bind, Sem.run_pure, Result.andThen_ok, agg84, run_size84, if_true]
  rw [show ([Value.int .i64 i, Value.int .i64 n] : List Value).length = 2 from rfl] at hr
  rw [hr]
  rfl
end
/-- An image of a row that is read. -/
theorem img_at {w : World} {A : Option Addr} {n : Nat} {xs : List (Int × Int)} (h : Kd.C kdI w A n xs) (i : Int) (h0 : 0 ≤ i) (h1 : i < n) :
    ∃ ad, A = some ad ∧ w.cell? (ad.add (i.toNat * 2)) = some (.int .i64 (xs.getD i.toNat (0, 0)).1) ∧ w.cell? (ad.add (i.toNat * 2 + 1)) = some (.int .i64 (xs.getD i.toNat (0, 0)).2) := by
  obtain ⟨ad, c, hA, hl, hK, hc⟩ := Kd.C_get h (0, 0) i h0 h1
  obtain ⟨c0, c1, rfl, k0, k1⟩ := hK
  have e0 : c0 = [.int .i64 (xs.getD i.toNat (0, 0)).1] := k0
  have e1 : c1 = [.int .i64 (xs.getD i.toNat (0, 0)).2] := k1
  subst e0 e1
  exact ⟨ad, hA, hc 0 _ rfl, hc 1 _ rfl⟩
theorem decode_is (A : Option Addr) (c : Nat) (b : List Int) (w : World) (hC : Kd.C (Kd.int .u8) w A b.length b) (hc : b.length ≤ c) (hb : Bytes b) (p : List Int) (er : Option Int) (hd : decodeOf b = (p, er)) :
    Calls Try.prog 37 #[.slice A b.length c] w fun e w' => e = .returned (.tuple #[.agg (pg p), errW er]) ∧ Below w.heap.size w w' := by
  have := decode_calls A c b w hC hc hb
  rw [hd] at this
  exact this
/-- A row of the call's own, of no pages; a page has been written. -/
theorem row_far {α : Type} {d : Kd α} {e : Nat} {W w1 : World} {g base : Nat} {l : List Int} {xs : List α} {v : Value} {ok : Nat → Prop} (hp : Page W g l) (h : d.R e W base ok v xs) (ht : ∀ q, q ∈ e :: d.E → q ≠ 65) (hg : W.grownBy w1 (some g)) : d.R e w1 base ok v xs :=
  Kd.R_mono (Kd.R_grown (Kd.R_types h hp.1 ht) hg (fun k hk e => hk.2 (by injection e))) (fun _ hk => hk.1)
end Go.Proofs.Ytbphmpncajfaiaa.K
/- Words: two errors of one integer type held against each other. -/
namespace Go.Proofs.Ytbphmpncajfaiaa.K
open Go.RowKit
theorem equalIn_errs {P : Program} (w : World) (d : Nat) {ti tn : TypeId} {ms : Array (String × TypeId)} {i : TypeInfo} {k : IntKind} (a b : Int) (hi : P.underlying ti = some (.interface ms)) (hn : P.underlying tn = some (.int k)) (hinfo : P.info? tn = some i) (hcomp : i.comparable = true) :
    (Op.equalIn (d + 2) ti (.iface tn (.int k a)) (.iface tn (.int k b))).run P w = .ok (a == b) w := by
  simp [Op.equalIn, run_underlying hi, run_underlying hn, typeInfo, hinfo, hcomp]
theorem eql_errs {P : Program} (w : World) {ti tn : TypeId} {ms : Array (String × TypeId)} {i : TypeInfo} {k : IntKind} (a b : Int) (hi : P.underlying ti = some (.interface ms)) (hn : P.underlying tn = some (.int k)) (hinfo : P.info? tn = some i) (hcomp : i.comparable = true) :
    (binOp .eql ti (.iface tn (.int k a)) (.iface tn (.int k b))).run P w = .ok (.bool (a == b)) w := by
  simp only [binOp]
  simp [Op.equal, Op.maxDepth, equalIn_errs w 9998 a b hi hn hinfo hcomp]
theorem neq_errs {P : Program} (w : World) {ti tn : TypeId} {ms : Array (String × TypeId)} {i : TypeInfo} {k : IntKind} (a b : Int) (hi : P.underlying ti = some (.interface ms)) (hn : P.underlying tn = some (.int k)) (hinfo : P.info? tn = some i) (hcomp : i.comparable = true) :
    (binOp .neq ti (.iface tn (.int k a)) (.iface tn (.int k b))).run P w = .ok (.bool (!(a == b))) w := by
  simp only [binOp]
  simp [Op.equal, Op.maxDepth, equalIn_errs w 9998 a b hi hn hinfo hcomp]
/-- The program's own errors. -/
theorem info49 : ∃ i, Try.prog.info? 49 = some i ∧ i.comparable = true := by
  obtain ⟨i, hi⟩ : ∃ i, Try.prog.info? 49 = some i := Option.isSome_iff_exists.1 (by kernel_rfl)
  have h : (Try.prog.info? 49).map (·.comparable) = some true := by kernel_rfl
  rw [hi] at h
  exact ⟨i, hi, by simpa using h⟩
theorem eql49 (W : World) (a b : Int) : (binOp .eql 40 (.iface 49 (.int .i64 a)) (.iface 49 (.int .i64 b))).run Try.prog W = .ok (.bool (a == b)) W := by
  obtain ⟨i, hi, hc⟩ := info49
  exact eql_errs W a b Try.underlying40 Try.underlying49 hi hc
theorem neq49 (W : World) (a b : Int) : (binOp .neq 40 (.iface 49 (.int .i64 a)) (.iface 49 (.int .i64 b))).run Try.prog W = .ok (.bool (!(a == b))) W := by
  obtain ⟨i, hi, hc⟩ := info49
  exact neq_errs W a b Try.underlying40 Try.underlying49 hi hc
end Go.Proofs.Ytbphmpncajfaiaa.K
/- alive of the law of pages (function 35). -/
namespace Go.Proofs.Ytbphmpncajfaiaa.K
open Go.RowKit Go.Proofs.Ytbphmpncajfaiaa.M Go.Proofs.Ytbphmpncajfaiaa.Py Go.Proofs.YtbphmpncajfaiaaW.PrintWords Go.Proofs.YtbphmpncajfaiaaW.PrintLast Go.Proofs.YtbphmpncajfaiaaW.PrintMore
set_option linter.unusedVariables false
set_option linter.unusedSimpArgs false
theorem encode_page (p : List Int) (w : World) (hn : ∀ x ∈ p, I64 x) (hl : p.length = 61) :
    Calls Try.prog 39 #[.agg (pg p)] w fun e w' => ∃ v, e = .returned v ∧ Kd.R (Kd.int .u8) 5 w' w.heap.size (fun _ => True) v (encodeOf (p.headD 0) p.tail) ∧ Below w.heap.size w w' := by
  match p, hn, hl with
  | n :: l, hn, hl => exact encode_dec n l w (hn n List.mem_cons_self) (by simpa using hl)
/-- In which cells two pages differ. -/
def diffP (p q : List Int) : List (Int × Int) := diffOf p.tail q.tail 60
theorem diff_page (p q : List Int) (w : World) (hp : p.length = 61) (hq : q.length = 61) :
    Calls Try.prog 43 #[.agg (pg p), .agg (pg q)] w fun e w' => ∃ v, e = .returned v ∧ Kd.R kdI 84 w' w.heap.size (fun _ => True) v (diffP p q) ∧ Below w.heap.size w w' := by
  match p, q, hp, hq with
  | m :: a, n :: b, hp, hq => exact diff_calls m n a b w (by simpa using hp) (by simpa using hq)
set_option maxHeartbeats 8000000 in
set_option maxRecDepth 100000 in
theorem alive5_calls (w : World) : Calls Try.prog 35 #[] w fun e w' => e = .returned (.bool true) ∧ Below w.heap.size w w' := by
  have HB := Aside0.mk (Below.refl w.heap.size w)
  have heq := eql49
  obtain ⟨z, hz⟩ : ∃ z : List Int, z = 5 :: List.replicate 60 0 := ⟨_, rfl⟩
  obtain ⟨l, hl⟩ : ∃ l : List Int, l = (List.replicate 60 0).set 3 (-7) := ⟨_, rfl⟩
  obtain ⟨p5, hp5⟩ : ∃ p : List Int, p = 5 :: l := ⟨_, rfl⟩
  obtain ⟨nn, hnn⟩ : ∃ p : List Int, p = List.replicate 61 0 := ⟨_, rfl⟩
  obtain ⟨bx, hbx⟩ : ∃ b, b = encodeOf 5 l := ⟨_, rfl⟩
  obtain ⟨zs, hzs⟩ : ∃ b : List Int, b = List.replicate 512 0 := ⟨_, rfl⟩
  obtain ⟨d, hd⟩ : ∃ d, d = diffP p5 nn := ⟨_, rfl⟩
  have NZ := Aside0.mk hz
  have LZ := Aside0.mk (show z.length = 61 by rw [hz]; rfl)
  have CZ := Aside0.mk (show z[4]? = some 0 by rw [hz]; rfl)
  have NP5 := Aside0.mk (show p5 = z.set 4 (-7) by rw [hp5, hz, hl]; rfl)
  have L60 := Aside0.mk (show l.length = 60 by rw [hl]; rfl)
  have L61 := Aside0.mk (show p5.length = 61 by rw [hp5, hl]; rfl)
  have NN := Aside0.mk hnn
  have LN := Aside0.mk (show nn.length = 61 by rw [hnn]; rfl)
  have NB := Aside0.mk (show bx = encodeOf (p5.headD 0) p5.tail by rw [hp5]; exact hbx)
  have IP := Aside0.mk (show ∀ x ∈ p5, I64 x by
    intro x hx
    rw [hp5, hl] at hx
    have : x = 5 ∨ x = 0 ∨ x = -7 := by
      rcases List.mem_cons.1 hx with h | h
      · exact Or.inl h
      · rcases List.mem_or_eq_of_mem_set h with h | h
        · exact Or.inr (Or.inl (List.eq_of_mem_replicate h))
        · exact Or.inr (Or.inr h)
    unfold I64
    omega)
  have BB := Aside0.mk (show Bytes bx by rw [hbx]; exact encode_bytes 5 l)
  have LBX := Aside0.mk (show bx.length = 512 by rw [hbx]; exact encode_len (by unfold I64; omega) L60.out)
  have D1 := Aside0.mk (show decodeOf bx = (p5, none) by
    rw [hbx, hp5]
    exact decode_encode (by unfold I64; omega) L60.out (fun x hx => IP.out x (by rw [hp5]; exact List.mem_cons_of_mem _ hx)))
  have NS := Aside0.mk hzs
  have BS := Aside0.mk (show Bytes zs by rw [hzs]; exact Bytes.replicate _)
  have D2 := Aside0.mk (show decodeOf zs = (nn, none) by rw [hzs, hnn]; unfold decodeOf; rw [if_neg (by simp), if_pos rfl]; rfl)
  have ND := Aside0.mk hd
  have hdd : d = [(3, -7)] := by rw [hd, hp5, hnn, hl]; decide +kernel
  have LD := Aside0.mk (show d.length = 1 by rw [hdd]; rfl)
  have VD := Aside0.mk (show d.getD (Int.toNat 0) (0, 0) = (3, -7) by rw [hdd]; rfl)
  have c1 : ((bx.length : Int) == 512) = true := by rw [LBX.out]; rfl
  have c3 : (0 : Int) < (d.length : Int) := by rw [LD.out]; decide
  have c2 : ((d.length : Int) == 1) = true := by rw [LD.out]; rfl
  clear hz hl hp5 hnn hbx hzs hd hdd
  go_enter Try.func35, Try.ntmps35
  go_wp2_with (first | ((with_reducible refine gate_dst (N := 8) rfl ?_); (try (refine gate_guard (by rfl) ?_; dsimp only)); refine page_build rfl _ (5) rfl rfl z (NZ.out) ?_) | ((with_reducible refine gate_dst (N := 1) rfl ?_); (try (refine gate_guard (by rfl) ?_; dsimp only)); refine page_alloc rfl rfl ?_; intro g_p w_p hg_ hp_ hb_; have G_p := Aside0.mk (show w.heap.size ≤ g_p by rw [hg_]; exact below_size HB.out); have P_p := Aside0.mk hp_; replace HB := Aside0.mk (below_step HB.out hb_); clear hg_ hp_ hb_) | ((try (refine gate_guard (by rfl) ?_; dsimp only)); refine page_store rfl rfl (.tmp 1) (.tmp 8) rfl g_p _ z rfl rfl P_p.out (LZ.out) ?_; intro w_s1 hp_ hg_; replace P_p := Aside0.mk hp_; replace HB := Aside0.mk (page_below HB.out hg_ G_p.out); clear hp_ hg_; have hpc := P_p.out.cell 4 0 CZ.out; have hpf := P_p.out.free 4) | ((with_reducible refine gate_dst (N := 11) rfl ?_); (try (refine gate_guard (by rfl) ?_; dsimp only)); have hg_ := grown_setCell w_s1 g_p 4 (.int .i64 (-7)); replace P_p := Aside0.mk (by have h_ := P_p.out.set 4 (-7); rw [← NP5.out] at h_; exact h_); replace HB := Aside0.mk (page_below HB.out hg_ G_p.out); clear hg_; refine page_load rfl _ rfl g_p _ rfl P_p.out ?_) | ((with_reducible refine gate_callee (f := 39) rfl ?_); (with_reducible refine gate_dst (N := 12) rfl ?_); (try (refine gate_guard (by rfl) ?_; dsimp only)); refine goesL_ (some 12) rfl rfl Try.func39 (by kernel_rfl) rfl #[.agg (pg p5)] rfl (by (try simp only [List.map_toArray, List.map_cons, List.map_nil]); first | done | rfl) ?_; (refine (encode_page p5 _ IP.out L61.out).mono ?_); rintro e w_b ⟨v_b, rfl, ho_, hb_⟩; refine ⟨_, rfl, ?_⟩; have HB0_ := HB; replace P_p := Aside0.mk (P_p.out.below hb_); replace HB := Aside0.mk (below_step HB.out hb_); rw [← NB.out] at ho_; have H_b := Aside0.mk (Kd.R_lower ho_ (below_size HB0_.out)); clear ho_ hb_; obtain ⟨A_b, c_b, e_b⟩ := Kd.R_slice H_b.out; subst e_b; clear HB0_) | ((with_reducible refine gate_callee (f := 37) rfl ?_); (with_reducible refine gate_dst (N := 15) rfl ?_); (try (refine gate_guard (by rfl) ?_; dsimp only)); refine goesL_ (some 15) rfl rfl Try.func37 (by kernel_rfl) rfl #[.slice A_b bx.length c_b] rfl (by (try simp only [List.map_toArray, List.map_cons, List.map_nil]); first | done | rfl) ?_; (refine (decode_is A_b c_b bx _ ?side1 ?side2 (BB.out) p5 none (D1.out)).mono ?_); (case side1 => exact (Kd.R_reads' H_b.out).2.2); (case side2 => exact (Kd.R_reads' H_b.out).2.1); rintro e w_d1 ⟨rfl, hb_⟩; refine ⟨_, rfl, ?_⟩; have HB0_ := HB; replace P_p := Aside0.mk (P_p.out.below hb_); replace H_b := Aside0.mk (Kd.R_below H_b.out hb_); replace HB := Aside0.mk (below_step HB.out hb_); clear hb_; (try simp only [errW_none, errW_some]); clear HB0_) | ((with_reducible refine gate_dst (N := 3) rfl ?_); (try (refine gate_guard (by rfl) ?_; dsimp only)); refine page_alloc rfl rfl ?_; intro g_q w_q hg_ hp_ hb_; have G_q := Aside0.mk (show w.heap.size ≤ g_q by rw [hg_]; exact below_size HB.out); have NE_p_q := Aside0.mk (show g_p < g_q by rw [hg_]; exact P_p.out.lt); replace P_p := Aside0.mk (P_p.out.below hb_); replace H_b := Aside0.mk (Kd.R_below H_b.out hb_); have P_q := Aside0.mk hp_; replace HB := Aside0.mk (below_step HB.out hb_); clear hg_ hp_ hb_) | ((try (refine gate_guard (by rfl) ?_; dsimp only)); refine page_store rfl rfl (.tmp 3) (.tmp 16) rfl g_q _ p5 rfl rfl P_q.out (L61.out) ?_; intro w_s2 hp_ hg_; replace P_p := Aside0.mk (P_p.out.grown hg_ (fun e => by injection e with e; have := NE_p_q.out; omega)); replace H_b := Aside0.mk (row_far P_q.out H_b.out (by decide) hg_); replace P_q := Aside0.mk hp_; replace HB := Aside0.mk (page_below HB.out hg_ G_q.out); clear hp_ hg_) | ((with_reducible refine gate_dst (N := 19) rfl ?_); (try (refine gate_guard (by rfl) ?_; dsimp only)); refine Kd.R_make (w0 := w_s2) (Kd.int .u8) w_s2.heap.size 5 rfl (N := 19) rfl 22 _ _ rfl (512 : Int) rfl rfl Try.underlying22 (.int .u8 0) 1 info5 rfl (by decide) (by omega) 0 (ok := fun _ => True) (okp := fun _ => True) rfl (fun _ hk => hk) trivial (by omega) (by omega) (Below.refl _ _) (Nat.le_refl _) ?_; intro v_z w_z ho_ hb_ hg_ hnew_; rw [show (512 : Int).toNat = 512 from rfl, ← NS.out] at ho_; have HB0_ := HB; replace P_p := Aside0.mk (P_p.out.below hb_); replace H_b := Aside0.mk (Kd.R_below H_b.out hb_); replace P_q := Aside0.mk (P_q.out.below hb_); replace HB := Aside0.mk (below_step HB.out hb_); have H_z := Aside0.mk (Kd.R_lower ho_ (below_size HB0_.out)); clear ho_ hb_ hg_ hnew_ HB0_; obtain ⟨A_z, c_z, e_z⟩ := Kd.R_slice H_z.out; subst e_z) | ((with_reducible refine gate_callee (f := 37) rfl ?_); (with_reducible refine gate_dst (N := 20) rfl ?_); (try (refine gate_guard (by rfl) ?_; dsimp only)); refine goesL_ (some 20) rfl rfl Try.func37 (by kernel_rfl) rfl #[.slice A_z zs.length c_z] rfl (by (try simp only [List.map_toArray, List.map_cons, List.map_nil]); first | done | rfl) ?_; (refine (decode_is A_z c_z zs _ ?side1 ?side2 (BS.out) nn none (D2.out)).mono ?_); (case side1 => exact (Kd.R_reads' H_z.out).2.2); (case side2 => exact (Kd.R_reads' H_z.out).2.1); rintro e w_d2 ⟨rfl, hb_⟩; refine ⟨_, rfl, ?_⟩; have HB0_ := HB; replace P_p := Aside0.mk (P_p.out.below hb_); replace H_b := Aside0.mk (Kd.R_below H_b.out hb_); replace P_q := Aside0.mk (P_q.out.below hb_); replace H_z := Aside0.mk (Kd.R_below H_z.out hb_); replace HB := Aside0.mk (below_step HB.out hb_); clear hb_; (try simp only [errW_none, errW_some]); clear HB0_) | ((with_reducible refine gate_dst (N := 5) rfl ?_); (try (refine gate_guard (by rfl) ?_; dsimp only)); refine page_alloc rfl rfl ?_; intro g_n w_n hg_ hp_ hb_; have G_n := Aside0.mk (show w.heap.size ≤ g_n by rw [hg_]; exact below_size HB.out); have NE_p_n := Aside0.mk (show g_p < g_n by rw [hg_]; exact P_p.out.lt); have NE_q_n := Aside0.mk (show g_q < g_n by rw [hg_]; exact P_q.out.lt); replace P_p := Aside0.mk (P_p.out.below hb_); replace H_b := Aside0.mk (Kd.R_below H_b.out hb_); replace P_q := Aside0.mk (P_q.out.below hb_); replace H_z := Aside0.mk (Kd.R_below H_z.out hb_); have P_n := Aside0.mk hp_; replace HB := Aside0.mk (below_step HB.out hb_); clear hg_ hp_ hb_) | ((try (refine gate_guard (by rfl) ?_; dsimp only)); refine page_store rfl rfl (.tmp 5) (.tmp 21) rfl g_n _ nn rfl rfl P_n.out (LN.out) ?_; intro w_s3 hp_ hg_; replace P_p := Aside0.mk (P_p.out.grown hg_ (fun e => by injection e with e; have := NE_p_n.out; omega)); replace H_b := Aside0.mk (row_far P_n.out H_b.out (by decide) hg_); replace P_q := Aside0.mk (P_q.out.grown hg_ (fun e => by injection e with e; have := NE_q_n.out; omega)); replace H_z := Aside0.mk (row_far P_n.out H_z.out (by decide) hg_); replace P_n := Aside0.mk hp_; replace HB := Aside0.mk (page_below HB.out hg_ G_n.out); clear hp_ hg_) | ((with_reducible refine gate_dst (N := 23) rfl ?_); (try (refine gate_guard (by rfl) ?_; dsimp only)); refine page_load rfl _ rfl g_p _ rfl P_p.out ?_) | ((with_reducible refine gate_dst (N := 24) rfl ?_); (try (refine gate_guard (by rfl) ?_; dsimp only)); refine page_load rfl _ rfl g_n _ rfl P_n.out ?_) | ((with_reducible refine gate_callee (f := 43) rfl ?_); (with_reducible refine gate_dst (N := 25) rfl ?_); (try (refine gate_guard (by rfl) ?_; dsimp only)); refine goesL_ (some 25) rfl rfl Try.func43 (by kernel_rfl) rfl #[.agg (pg p5), .agg (pg nn)] rfl (by (try simp only [List.map_toArray, List.map_cons, List.map_nil]); first | done | rfl) ?_; (refine (diff_page p5 nn _ (L61.out) (LN.out)).mono ?_); rintro e w_df ⟨v_df, rfl, ho_, hb_⟩; refine ⟨_, rfl, ?_⟩; have HB0_ := HB; replace P_p := Aside0.mk (P_p.out.below hb_); replace H_b := Aside0.mk (Kd.R_below H_b.out hb_); replace P_q := Aside0.mk (P_q.out.below hb_); replace H_z := Aside0.mk (Kd.R_below H_z.out hb_); replace P_n := Aside0.mk (P_n.out.below hb_); replace HB := Aside0.mk (below_step HB.out hb_); rw [← ND.out] at ho_; have H_df := Aside0.mk (Kd.R_lower ho_ (below_size HB0_.out)); clear ho_ hb_; obtain ⟨A_df, c_df, e_df⟩ := Kd.R_slice H_df.out; subst e_df; clear HB0_; obtain ⟨ad_, hA_, h0_, h1_⟩ := img_at (Kd.R_reads' H_df.out).2.2 0 (by omega) (by rw [LD.out]; decide); rw [VD.out] at h0_ h1_; subst hA_) | ((with_reducible refine gate_dst (N := 38) rfl ?_); (try (refine gate_guard (by rfl) ?_; dsimp only)); refine page_load rfl _ rfl g_q _ rfl P_q.out ?_) | ((with_reducible refine gate_dst (N := 39) rfl ?_); (try (refine gate_guard (by rfl) ?_; dsimp only)); refine page_load rfl _ rfl g_p _ rfl P_p.out ?_) | ((with_reducible refine gate_dst (N := 40) rfl ?_); (try (refine gate_guard (by rfl) ?_; dsimp only)); refine page_eql rfl _ _ rfl p5 p5 rfl rfl (L61.out) (L61.out) true (decide_eq_true rfl) ?_) | ((with_reducible refine gate_dst (N := 43) rfl ?_); (try (refine gate_guard (by rfl) ?_; dsimp only)); refine page_load rfl _ rfl g_n _ rfl P_n.out ?_) | ((with_reducible refine gate_dst (N := 44) rfl ?_); (try (refine gate_guard (by rfl) ?_; dsimp only)); refine page_blank rfl rfl nn (NN.out) ?_) | ((with_reducible refine gate_dst (N := 45) rfl ?_); (try (refine gate_guard (by rfl) ?_; dsimp only)); refine page_eql rfl _ _ rfl nn nn rfl rfl (LN.out) (LN.out) true (decide_eq_true rfl) ?_) | ((with_reducible refine gate_dst (N := 55) rfl ?_); (try (refine gate_guard (by rfl) ?_; dsimp only)); refine img_load rfl _ rfl _ 3 (-7) rfl h0_ h1_ ?_; clear h0_ h1_) | ((with_reducible refine gate_dst (N := 56) rfl ?_); (try (refine gate_guard (by rfl) ?_; dsimp only)); refine img_build rfl _ _ 3 (-7) rfl rfl rfl ?_) | ((with_reducible refine gate_dst (N := 57) rfl ?_); (try (refine gate_guard (by rfl) ?_; dsimp only)); refine img_eql rfl _ _ rfl 3 (-7) 3 (-7) rfl rfl true rfl ?_))
  go_ret
  exact ⟨rfl, HB.out⟩
end Go.Proofs.Ytbphmpncajfaiaa.K
/- The law's filled (function 36): a page whose cells are some numbers, again and again. -/
namespace Go.Proofs.Ytbphmpncajfaiaa.K
open Go.RowKit Go.Proofs.YtbphmpncajfaiaaW.PrintWords Go.Proofs.YtbphmpncajfaiaaW.PrintLast Go.Proofs.YtbphmpncajfaiaaW.PrintMore
set_option linter.unusedVariables false
set_option linter.unusedSimpArgs false
/-- What the i-th cell of such a page is. -/
def again (ln : List Int) (i : Nat) : Int := if ln.length = 0 then 0 else rd ln ((i % ln.length : Nat) : Int)
/-- The page up to the x-th cell. -/
def upto (lsn : Int) (ln : List Int) (x : Nat) : List Int := lsn :: (List.range 60).map (fun i => if i < x then again ln i else 0)
def full (lsn : Int) (ln : List Int) : List Int := lsn :: (List.range 60).map (again ln)
theorem upto_len (lsn : Int) (ln : List Int) (x : Nat) : (upto lsn ln x).length = 61 := by simp [upto]
theorem upto_zero (lsn : Int) (ln : List Int) : upto lsn ln 0 = lsn :: List.replicate 60 0 := by simp [upto, List.map_const']
theorem upto_full (lsn : Int) (ln : List Int) : upto lsn ln 60 = full lsn ln := by
  unfold upto full
  rw [List.map_congr_left (fun i hi => by rw [if_pos (List.mem_range.1 hi)])]
theorem upto_step (lsn : Int) (ln : List Int) (x : Nat) (h : x < 60) : (upto lsn ln x).set (1 + x) (again ln x) = upto lsn ln (x + 1) := by
  unfold upto
  rw [show 1 + x = x + 1 by omega, List.set_cons_succ]
  congr 1
  apply List.ext_getElem?
  intro j
  rw [List.getElem?_set]
  simp only [List.length_map, List.length_range, List.getElem?_map]
  by_cases hj : x = j
  · subst hj
    simp [h]
  · rw [if_neg hj]
    by_cases hl : j < 60
    · simp only [List.getElem?_range hl, Option.map_some, Option.some.injEq]
      by_cases h1 : j < x
      · rw [if_pos h1, if_pos (by omega)]
      · rw [if_neg h1, if_neg (by omega)]
    · rw [List.getElem?_eq_none (by simp; omega)]
      rfl
theorem upto_none (lsn : Int) (ln : List Int) (x : Nat) (h : ln.length = 0) : upto lsn ln x = upto lsn ln (x + 1) := by
  unfold upto
  congr 1
  refine List.map_congr_left (fun i _ => ?_)
  unfold again
  rw [if_pos h]
  simp
set_option maxHeartbeats 8000000 in
set_option maxRecDepth 100000 in
theorem filled_calls (lsn : Int) (A : Option Addr) (c : Nat) (ln : List Int) (w : World) (hC : Kd.C (Kd.int .i64) w A ln.length ln) (hc : ln.length ≤ c) (hl : ln.length ≤ 4611686018427387904) :
    Calls Try.prog 36 #[.int .i64 lsn, .slice A ln.length c] w fun e w' => e = .returned (.agg (pg (full lsn ln))) ∧ Below w.heap.size w w' := by
  have HC := Aside0.mk hC
  have HB := Aside0.mk (Below.refl w.heap.size w)
  have HL := Aside0.mk hl
  clear hC hc hl
  obtain ⟨z, hz⟩ : ∃ z : List Int, z = lsn :: List.replicate 60 0 := ⟨_, rfl⟩
  have NZ := Aside0.mk hz
  clear hz
  go_enter Try.func36, Try.ntmps36
  go_wp2_with (first | ((with_reducible refine gate_dst (N := 4) rfl ?_); refine page_alloc rfl rfl ?_; intro g4 w4 hg hp hb; have HP4 := Aside0.mk hp; replace HB := Aside0.mk (below_step HB.out hb); have G4 := Aside0.mk (show w.heap.size ≤ g4 by rw [hg]; exact Nat.le_refl _); clear hp hb hg) | ((with_reducible refine gate_dst (N := 8) rfl ?_); refine page_build rfl _ lsn rfl rfl z NZ.out ?_) | ((with_reducible refine gate_dst (N := 5) rfl ?_); refine page_alloc rfl rfl ?_; intro g5 w5 hg hp hb; have HP5 := Aside0.mk hp; have HNE := Aside0.mk (show g4 < g5 by rw [hg]; exact HP4.out.lt); have G5 := Aside0.mk (show w.heap.size ≤ g5 by rw [hg]; exact below_size HB.out); replace HP4 := Aside0.mk (HP4.out.below hb); replace HB := Aside0.mk (below_step HB.out hb); clear hp hb hg) | (refine page_store rfl rfl (.tmp 5) (.tmp 8) rfl g5 _ z rfl rfl HP5.out (by rw [NZ.out]; simp) ?_; intro w6 hp hg; replace HP5 := Aside0.mk hp; replace HP4 := Aside0.mk (HP4.out.grown hg (fun e => by injection e with e; have := HNE.out; omega)); replace HB := Aside0.mk (page_below HB.out hg G5.out); clear hp hg))
  go_loopg [9] 60 (fun kq v9 w' => ∃ x : Int, v9 = .int .i64 x ∧ Aside0 (0 ≤ x ∧ x ≤ 60 ∧ kq + x.toNat = 60) ∧ Aside0 (Page w' g5 (upto lsn ln x.toNat)) ∧ Aside0 (Page w' g4 (List.replicate 61 0)) ∧ Aside0 (Below w.heap.size w w'))
  case atStart => exact ⟨0, rfl, ⟨by omega⟩, ⟨by rw [show (0 : Int).toNat = 0 from rfl, upto_zero, ← NZ.out]; exact HP5.out⟩, HP4, HB⟩
  case round =>
    clear HP4 HP5 HB
    obtain ⟨x, rfl, HX, HP5, HP4, HB⟩ := hrel
    obtain ⟨hx0, hx1, hxk⟩ := HX.out
    by_cases hlt : x < 60
    · obtain ⟨k1, rfl⟩ : ∃ k1, gk = k1 + 1 := ⟨gk - 1, by omega⟩
      have HXK := Aside0.mk hxk
      have c1 : decide (x < 60) = true := decide_eq_true hlt
      clear hxk HX
      by_cases hn : ln.length = 0
      · have c2 : decide ((ln.length : Int) > 0) = false := decide_eq_false (by omega)
        go_wp2
        go_roundg k1
        case measure => omega
        case rel => exact ⟨x + 1, rfl, ⟨by have := HXK.out; omega⟩, ⟨by rw [show (x + 1).toNat = x.toNat + 1 by omega, ← upto_none lsn ln _ hn]; exact HP5.out⟩, HP4, HB⟩
      · have c2 : decide ((ln.length : Int) > 0) = true := decide_eq_true (by omega)
        obtain ⟨j, hj⟩ : ∃ j : Nat, j = x.toNat % ln.length := ⟨_, rfl⟩
        have hjl : j < ln.length := by rw [hj]; exact Nat.mod_lt _ (by omega)
        have e0 : Int.tmod x (ln.length : Int) = (j : Int) := by
          rw [hj, Int.tmod_eq_emod_of_nonneg hx0, Int.natCast_emod, Int.toNat_of_nonneg hx0]
        have e1 : wrap64 (Int.tmod x (ln.length : Int)) = (j : Int) := by rw [e0]; have := HL.out; unfold wrap64; omega
        obtain ⟨ad, hA, hcl⟩ := Kd.at_int HC.out (j : Int) (by omega) (by omega)
        simp only [Int.toNat_natCast] at hcl
        subst hA
        have hcl' := (HB.out.cell (World.block_lt_of_cell? w _ hcl)).trans hcl
        have hv : again ln x.toNat = rd ln (j : Int) := by unfold again; rw [if_neg hn, ← hj]
        obtain ⟨old, hold⟩ : ∃ y, (upto lsn ln x.toNat)[1 + x.toNat]? = some y := ⟨_, List.getElem?_eq_getElem (by rw [upto_len]; omega)⟩
        have hpc := HP5.out.cell (1 + x.toNat) old hold
        have hpf := HP5.out.free (1 + x.toNat)
        have q0 := eq_true hx0
        have q1 := eq_true hlt
        have q2 : (j : Int) < (ln.length : Int) := by omega
        have q3 : 0 ≤ (j : Int) := by omega
        have q4 : ¬ (ln.length : Int) = 0 := by omega
        have HV := Aside0.mk hv
        have HJ := Aside0.mk hj
        have HN := Aside0.mk hn
        clear hcl hv hj hold hn hjl
        go_wp2
        have hs := HP5.out.set (1 + x.toNat) (rd ln (j : Int))
        rw [← HV.out, upto_step lsn ln x.toNat (by omega), show x.toNat + 1 = (x + 1).toNat by omega] at hs
        have hg := Page.far HP4.out (g' := g5) (by have := HNE.out; omega) (1 + x.toNat) (.int .i64 (rd ln (j : Int)))
        rw [← HV.out] at hg
        go_roundg k1
        case measure => omega
        case rel => exact ⟨x + 1, rfl, ⟨by have := HXK.out; omega⟩, ⟨by rw [← HV.out]; exact hs⟩, ⟨by rw [← HV.out]; exact hg⟩, ⟨HB.out.setCell G5.out _⟩⟩
    · have c1 : decide (x < 60) = false := decide_eq_false hlt
      obtain rfl : x = 60 := by omega
      clear hxk HX
      go_wp2_with (first | ((with_reducible refine gate_dst (N := 26) rfl ?_); refine page_load rfl _ rfl g5 _ rfl HP5.out ?_) | (refine page_store rfl rfl (.tmp 4) (.tmp 26) rfl g4 _ _ rfl rfl HP4.out (upto_len _ _ _) ?_; intro w6 hp hg; replace HP4 := Aside0.mk hp; replace HB := Aside0.mk (page_below HB.out hg G4.out); clear hp hg))
      refine bodyPost_ret (results_cell_row (p := 4) (ty := 65) rfl _ _ g4 65 _ (0, 0) _ rfl HP4.out.1 Try.underlying65 rfl (by rw [pg_size, upto_len]; exact size65)) rfl ?_
      exact ⟨by rw [show (60 : Int).toNat = 60 from rfl, upto_full], HB.out⟩
end Go.Proofs.Ytbphmpncajfaiaa.K
/- Small words, by themselves (so that a claim needs no more than it must). -/
namespace Go.Proofs.Ytbphmpncajfaiaa.K
open Go.RowKit Go.Proofs.Ytbphmpncajfaiaa.M Go.Proofs.Ytbphmpncajfaiaa.Py Go.Proofs.YtbphmpncajfaiaaW.PrintWords Go.Proofs.YtbphmpncajfaiaaW.PrintLast Go.Proofs.YtbphmpncajfaiaaW.PrintMore
set_option linter.unusedVariables false
set_option linter.unusedSimpArgs false
theorem gate_op' {P : Program} {ops : Array Oper} {rest : List Oper} {o : Oper} {a : Act} {Q : Exit → Act → World → Prop} {W : World} (op : Op) (ho : o.op = op) (h : wpList P ops Q (o :: rest) a W) : wpList P ops Q (o :: rest) a W := h
theorem full_i64' {n : Int} {ln : List Int} (hn : I64 n) (hl : ∀ x ∈ ln, I64 x) : ∀ x ∈ full n ln, I64 x := fun x hx => by
  unfold full at hx
  rcases List.mem_cons.1 hx with rfl | hx
  · exact hn
  · obtain ⟨i, _, rfl⟩ := List.mem_map.1 hx
    unfold again
    split
    · unfold I64; omega
    · rename_i h0
      unfold rd
      rw [List.getD_eq_getElem?_getD, Int.toNat_natCast, List.getElem?_eq_getElem (Nat.mod_lt _ (by omega))]
      exact hl _ (List.getElem_mem _)
theorem el_rd' {l : List Int} {i : Nat} (h : i < l.length) : l[i] = rd l i := by
  unfold rd
  rw [List.getD_eq_getElem?_getD, Int.toNat_natCast, List.getElem?_eq_getElem h]
  rfl
end Go.Proofs.Ytbphmpncajfaiaa.K
/- Words: a region whose order is open, whose operations read and make memory: each operation shown once, whatever stands behind it already. -/
namespace Go.Proofs.Ytbphmpncajfaiaa.K
open Go.RowKit Go.ChangeShapes
variable {P : Program} {ops : Array Oper} {Q : Exit → Act → World → Prop}
def fillN (a : Act) (N : Nat → Tmp) (vs : Nat → Value) : Nat → Act
  | 0 => a
  | k + 1 => (fillN a N vs k).put (some (N k)) (vs k)
theorem fillN_defers (a : Act) (N : Nat → Tmp) (vs : Nat → Value) : ∀ k, (fillN a N vs k).defers = a.defers
  | 0 => rfl
  | k + 1 => fillN_defers a N vs k
theorem fillN_size (a : Act) (N : Nat → Tmp) (vs : Nat → Value) : ∀ k, (fillN a N vs k).tmps.size = a.tmps.size
  | 0 => rfl
  | k + 1 => by
    show ((fillN a N vs k).tmps.setIfInBounds (N k) (vs k)).size = _
    rw [Array.size_setIfInBounds, fillN_size a N vs k]
theorem fillN_other (a : Act) (N : Nat → Tmp) (vs : Nat → Value) (t : Tmp) : ∀ k, (∀ i, i < k → N i ≠ t) → (fillN a N vs k).tmps[t]? = a.tmps[t]?
  | 0, _ => rfl
  | k + 1, h => by
    show ((fillN a N vs k).tmps.setIfInBounds (N k) (vs k))[t]? = _
    rw [Array.getElem?_setIfInBounds_ne (h k (by omega)), fillN_other a N vs t k (fun i hi => h i (by omega))]
theorem fillN_at (a : Act) (N : Nat → Tmp) (vs : Nat → Value) (hs : ∀ i, N i < a.tmps.size ∨ True) : ∀ k, (∀ i j, i < k → j < k → N i = N j → i = j) → (∀ i, i < k → N i < a.tmps.size) → ∀ i, i < k → (fillN a N vs k).tmps[N i]? = some (vs i)
  | 0, _, _, i, hi => by omega
  | k + 1, hinj, hsz, i, hi => by
    show ((fillN a N vs k).tmps.setIfInBounds (N k) (vs k))[N i]? = _
    by_cases h : i = k
    · subst h
      rw [Array.getElem?_setIfInBounds_self_of_lt (by rw [fillN_size]; exact hsz i (by omega))]
    · rw [Array.getElem?_setIfInBounds_ne (fun e => h (hinj i k hi (by omega) e.symm))]
      exact fillN_at a N vs hs k (fun x y hx hy => hinj x y (by omega) (by omega)) (fun x hx => hsz x (by omega)) i (by omega)
def unlisted (l : Array Bool) : Nat := (l.toList.filter (fun b => !b)).length
theorem unlisted_set {l : Array Bool} {i : Nat} (hi : i < l.size) (h : l[i] = false) : unlisted l = unlisted (l.setIfInBounds i true) + 1 := by
  unfold unlisted
  obtain ⟨l⟩ := l
  simp only [List.setIfInBounds_toArray] at *
  simp only [List.size_toArray, List.getElem_toArray] at hi h
  induction l generalizing i with
  | nil => simp at hi
  | cons b l ih =>
    cases i with
    | zero =>
      simp only [List.getElem_cons_zero] at h
      subst h
      simp
    | succ i =>
      simp only [List.getElem_cons_succ] at h
      have := ih (i := i) (by simpa using hi) h
      cases b <;> simp_all
theorem unlisted_zero {l : Array Bool} (h : unlisted l = 0) : ∀ i (hi : i < l.size), l[i] = true := by
  intro i hi
  unfold unlisted at h
  have h1 := List.eq_nil_of_length_eq_zero h
  have h2 := List.filter_eq_nil_iff.1 h1 l[i] (by simp)
  simpa using h2
theorem region_mem {id n : Nat} {a0 : Act} {w0 : World} (hm : P.follows .mixedOrders = true) (hn : ops.size = n) (N : Nat → Tmp) (hN : ∀ i o, ops[i]? = some o → o.dst = some (N i)) (hinj : ∀ i j, i < n → j < n → N i = N j → i = j) (hsz : ∀ i, i < n → N i < a0.tmps.size)
    (hdag : ∀ i o, ops[i]? = some o → ∀ e ∈ o.after, Region.binds .any e = true → e.on < i)
    (S : Nat → Value → World → Prop) (hS : ∀ i v w w', S i v w → Below w.heap.size w w' → S i v w')
    (step : ∀ i o a w, ops[i]? = some o → a.defers = a0.defers → a.tmps.size = a0.tmps.size → (∀ t, (∀ j, j < n → N j ≠ t) → a.tmps[t]? = a0.tmps[t]?) → Below w0.heap.size w0 w →
      (∀ e ∈ o.after, Region.binds .any e = true → ∃ v, a.tmps[N e.on]? = some v ∧ S e.on v w) →
      if Region.wanted o (yielded ops a.tmps) = true then o.wp P a w (fun a' w' => ∃ v, a' = a.put o.dst v ∧ S i v w' ∧ Below w.heap.size w w') Q else S i undef w)
    (hend : ∀ (vs : Nat → Value) (w : World), Below w0.heap.size w0 w → (∀ i, i < n → S i (vs i) w) → Q .normal (fillN a0 N vs n) w) : (Code.region id ops true).wp P Q a0 w0 := by
  refine wp_region_any hm ?_
  have key : ∀ (fuel : Nat) (listed : Array Bool) (a : Act) (w : World), listed.size = n → unlisted listed ≤ fuel → a.defers = a0.defers → a.tmps.size = a0.tmps.size → (∀ t, (∀ j, j < n → N j ≠ t) → a.tmps[t]? = a0.tmps[t]?) → Below w0.heap.size w0 w →
      (∀ i, i < n → listed.getD i true = true → ∃ v, a.tmps[N i]? = some v ∧ S i v w) → wpAny P .any ops Q fuel listed a w := by
    have fin : ∀ (listed : Array Bool) (a : Act) (w : World), a.defers = a0.defers → a.tmps.size = a0.tmps.size → (∀ t, (∀ j, j < n → N j ≠ t) → a.tmps[t]? = a0.tmps[t]?) → Below w0.heap.size w0 w →
        (∀ i, i < n → ∃ v, a.tmps[N i]? = some v ∧ S i v w) → Q .normal a w := by
      intro listed a w hd hs hf hb hall
      have he : a = fillN a0 N (fun i => a.tmps.getD (N i) undef) n := by
        have ht : a.tmps = (fillN a0 N (fun i => a.tmps.getD (N i) undef) n).tmps := by
          apply Array.ext_getElem?
          intro t
          by_cases hx : ∃ i, i < n ∧ N i = t
          · obtain ⟨i, hi, rfl⟩ := hx
            rw [fillN_at a0 N _ (fun _ => .inr trivial) n hinj hsz i hi]
            obtain ⟨v, hv, _⟩ := hall i hi
            rw [hv, Array.getD_eq_getD_getElem?, hv]
            rfl
          · rw [fillN_other a0 N _ t n (fun i hi e => hx ⟨i, hi, e⟩)]
            exact hf t (fun j hj e => hx ⟨j, hj, e⟩)
        have hdd : a.defers = (fillN a0 N (fun i => a.tmps.getD (N i) undef) n).defers := by rw [fillN_defers]; exact hd
        cases a
        simp only at ht hdd
        generalize fillN a0 N _ n = b at ht hdd ⊢
        cases b
        simp only at ht hdd
        rw [← ht, ← hdd]
      rw [he]
      refine hend _ w hb (fun i hi => ?_)
      obtain ⟨v, hv, hs'⟩ := hall i hi
      rw [Array.getD_eq_getD_getElem?, hv]
      exact hs'
    have all_of : ∀ (listed : Array Bool), listed.size = n → Region.ready .any ops listed = [] → ∀ i, i < n → listed.getD i true = true := by
      intro listed hl hr i
      induction i using Nat.strongRecOn with
      | ind i ih =>
        intro hi
        cases hv : listed.getD i true with
        | true => rfl
        | false =>
          exfalso
          have hmem : i ∈ Region.ready .any ops listed := by
            unfold Region.ready
            refine List.mem_filter.2 ⟨List.mem_range.2 (by omega), ?_⟩
            have ho : ops[i]? = some ops[i] := Array.getElem?_eq_getElem (by omega)
            rw [hv, ho]
            simp only [Bool.not_false, Bool.true_and, Option.map_some, Option.getD_some]
            rw [Array.all_eq_true']
            intro e he
            cases hb : Region.binds .any e with
            | false => rfl
            | true =>
              have hlt := hdag i _ ho e he hb
              have h3 := ih e.on hlt (by omega)
              rw [Array.getD_eq_getD_getElem?, Array.getElem?_eq_getElem (show e.on < listed.size by omega)] at h3
              simp only [Option.getD_some] at h3
              rw [Array.getD_eq_getD_getElem?, Array.getElem?_eq_getElem (show e.on < listed.size by omega)]
              simp [h3]
          rw [hr] at hmem
          cases hmem
    intro fuel
    induction fuel with
    | zero =>
      intro listed a w hl hu hd hs hf hb hP
      have hall : ∀ i, i < n → listed.getD i true = true := fun i hi => by
        rw [Array.getD_eq_getD_getElem?, Array.getElem?_eq_getElem (by omega)]
        exact unlisted_zero (by omega) i (by omega)
      refine ⟨?_, fin listed a w hd hs hf hb (fun i hi => hP i hi (hall i hi))⟩
      refine List.eq_nil_iff_forall_not_mem.2 (fun i hi => ?_)
      unfold Region.ready at hi
      obtain ⟨h1, h2⟩ := List.mem_filter.1 hi
      rw [hall i (by have := List.mem_range.1 h1; omega)] at h2
      simp at h2
    | succ fuel ih =>
      intro listed a w hl hu hd hs hf hb hP
      refine ⟨fun hr => fin listed a w hd hs hf hb (fun i hi => hP i hi (all_of listed hl hr i hi)), fun i hi => ?_⟩
      unfold Region.ready at hi
      obtain ⟨h1, h2⟩ := List.mem_filter.1 hi
      have hin : i < n := by have := List.mem_range.1 h1; omega
      have ho : ops[i]? = some ops[i] := Array.getElem?_eq_getElem (by omega)
      rw [ho] at h2
      simp only [Option.map_some, Option.getD_some, Bool.and_eq_true, Bool.not_eq_true'] at h2
      have hdep : ∀ e ∈ (ops[i]).after, Region.binds .any e = true → ∃ v, a.tmps[N e.on]? = some v ∧ S e.on v w := by
        intro e he hbd
        have h3 := Array.all_eq_true'.1 h2.2 e he
        rw [hbd] at h3
        simp only [Bool.not_true, Bool.false_or] at h3
        have hlt := hdag i _ ho e he hbd
        refine hP e.on (by omega) ?_
        rw [Array.getD_eq_getD_getElem?, Array.getElem?_eq_getElem (show e.on < listed.size by omega)] at h3 ⊢
        simpa using h3
      have hst := step i _ a w ho hd hs hf hb hdep
      have hlf : listed[i]'(by omega) = false := by
        have h3 := h2.1
        rw [Array.getD_eq_getD_getElem?, Array.getElem?_eq_getElem (by omega)] at h3
        simpa using h3
      have hun := unlisted_set (i := i) (by omega) hlf
      have go : ∀ (v : Value) (w' : World), S i v w' → Below w.heap.size w w' → wpAny P .any ops Q fuel (listed.setIfInBounds i true) (a.put (ops[i]).dst v) w' := by
        intro v w' hv hbw
        rw [hN i _ ho]
        refine ih _ _ _ (by rw [Array.size_setIfInBounds]; exact hl) (by omega) hd (by show (a.tmps.setIfInBounds (N i) v).size = _; rw [Array.size_setIfInBounds]; exact hs) ?_ ?_ ?_
        · intro t ht
          show (a.tmps.setIfInBounds (N i) v)[t]? = _
          rw [Array.getElem?_setIfInBounds_ne (ht i hin)]
          exact hf t ht
        · exact (hb.trans (Below.mono hbw hb.size))
        · intro j hj hlj
          show ∃ v', (a.tmps.setIfInBounds (N i) v)[N j]? = some v' ∧ S j v' w'
          by_cases hji : j = i
          · subst hji
            rw [Array.getElem?_setIfInBounds_self_of_lt (by rw [hs]; exact hsz j hj)]
            exact ⟨v, rfl, hv⟩
          · rw [Array.getElem?_setIfInBounds_ne (fun e => hji (hinj j i hj hin e.symm))]
            have hlj' : listed.getD j true = true := by
              rw [Array.getD_eq_getD_getElem?, Array.getElem?_setIfInBounds_ne (fun e => hji e.symm)] at hlj
              rw [Array.getD_eq_getD_getElem?]
              exact hlj
            obtain ⟨v', h3, h4⟩ := hP j hj hlj'
            exact ⟨v', h3, hS j v' w w' h4 hbw⟩
      unfold wpOp
      rw [ho]
      simp only
      by_cases hw : Region.wanted ops[i] (yielded ops a.tmps) = true
      · rw [if_pos hw] at hst ⊢
        refine .inl (Oper.wp_mono (fun a' w' hh => ?_) hst)
        obtain ⟨v, rfl, hv, hbw⟩ := hh
        exact go v w' hv hbw
      · rw [if_neg hw] at hst ⊢
        exact go undef w hst (Below.refl _ _)
  refine key ops.size _ a0 _ (by rw [Array.size_replicate]; exact hn) ?_ rfl rfl (fun _ _ => rfl) ⟨rfl, rfl, rfl, Nat.le_refl _, fun _ _ => rfl⟩ ?_
  · unfold unlisted
    exact Nat.le_trans (List.length_filter_le _ _) (by simp)
  · intro i hi hh
    rw [Array.getD_eq_getD_getElem?, Array.getElem?_eq_getElem (by rw [Array.size_replicate]; omega)] at hh
    simp at hh
end Go.Proofs.Ytbphmpncajfaiaa.K
namespace Go.Proofs.Ytbphmpncajfaiaa.K
open Go.RowKit Go.ChangeShapes
section
variable {P : Program} {ops : Array Oper} {Q : Exit → Act → World → Prop} {o : Oper} {a : Act} {w w' : World} {v : Value} {S : Value → World → Prop}
theorem reg_value (hw : Region.wanted o (yielded ops a.tmps) = true) (hrun : (execOp a.eval o).run P w = .ok (.value v) w') (hS : S v w') (hb : Below w.heap.size w w') :
    if Region.wanted o (yielded ops a.tmps) = true then o.wp P a w (fun a' w' => ∃ v, a' = a.put o.dst v ∧ S v w' ∧ Below w.heap.size w w') Q else S undef w := by
  rw [if_pos hw]
  unfold Oper.wp
  rw [hrun]
  exact ⟨v, rfl, hS, hb⟩
theorem reg_call {f : FuncId} {args : Array Value} (hw : Region.wanted o (yielded ops a.tmps) = true) (hrun : (execOp a.eval o).run P w = .ok (.enter f args) w) (h : Calls P f args w fun e w' => ∃ v, e = .returned v ∧ S v w' ∧ Below w.heap.size w w') :
    if Region.wanted o (yielded ops a.tmps) = true then o.wp P a w (fun a' w' => ∃ v, a' = a.put o.dst v ∧ S v w' ∧ Below w.heap.size w w') Q else S undef w := by
  rw [if_pos hw]
  unfold Oper.wp
  rw [hrun, Oper.upon_enter]
  refine h.mono fun e w'' hh => ?_
  obtain ⟨v, rfl, hs, hb⟩ := hh
  exact ⟨v, rfl, hs, hb⟩
theorem reg_skip (hw : Region.wanted o (yielded ops a.tmps) = false) (hS : S undef w) :
    if Region.wanted o (yielded ops a.tmps) = true then o.wp P a w (fun a' w' => ∃ v, a' = a.put o.dst v ∧ S v w' ∧ Below w.heap.size w w') Q else S undef w := by
  rw [hw]
  exact hS
theorem ev_of {t : Tmp} (h : a.tmps[t]? = some v) : a.eval (.tmp t) = v := by
  show a.tmps.getD t undef = v
  rw [Array.getD_eq_getD_getElem?, h]
  rfl
theorem enters {f : FuncId} {fn : Func} (hf : P.funcs[f]? = some fn) (hname : (fn.name == "runtime.NumGoroutine") = false) (hb : fn.body.isSome = true) (args : Array Value) (w : World) : (callFunc f args).run P w = .ok (.enter f args) w := by
  have h1 : fn.name ≠ "runtime.NumGoroutine" := by simpa using hname
  obtain ⟨c, hc⟩ := Option.isSome_iff_exists.1 hb
  simp [callFunc, hf, h1, hc]
theorem reg_enters {f : FuncId} {fn : Func} {os : Array Operand} {ts : Array TypeId} (hf : P.funcs[f]? = some fn) (hname : (fn.name == "runtime.NumGoroutine") = false) (hb : fn.body.isSome = true) (args : Array Value)
    (hop : o.op = .call { callee := .value (.func f), args := os, argTypes := ts }) (hargs : os.map a.eval = args) : (execOp a.eval o).run P w = .ok (.enter f args) w := by
  have he := enters hf hname hb args w
  unfold execOp
  simp [hop, resolve, Deferred.ofValue, invoke, Act.eval, hargs, he]
theorem wanted_of (j : Nat) (want b r : Bool) {t : Tmp} (ht : a.tmps[t]? = some (.bool b)) (hg : o.guard = some (j, want)) (hd : (ops[j]?).bind (·.dst) = some t) (hr : (b == want) = r) : Region.wanted o (yielded ops a.tmps) = r := by
  subst hr
  unfold Region.wanted yielded
  rw [hg]
  simp only [hd, Option.bind_some, ht]
  cases b <;> cases want <;> rfl
end
end Go.Proofs.Ytbphmpncajfaiaa.K
/- Words: pages in a region whose order is open. -/
namespace Go.Proofs.Ytbphmpncajfaiaa.K
open Go.RowKit Go.ChangeShapes Go.Proofs.Ytbphmpncajfaiaa.M Go.Proofs.Ytbphmpncajfaiaa.Py Go.Proofs.YtbphmpncajfaiaaW.PrintWords Go.Proofs.YtbphmpncajfaiaaW.PrintLast Go.Proofs.YtbphmpncajfaiaaW.PrintMore
set_option linter.unusedVariables false
set_option linter.unusedSimpArgs false
section
variable {ops : Array Oper} {o : Oper} {a : Act} {W : World}
theorem unwanted_of (j : Nat) (want : Bool) {t : Tmp} (ht : a.tmps[t]? = some undef) (hg : o.guard = some (j, want)) (hd : (ops[j]?).bind (·.dst) = some t) : Region.wanted o (yielded ops a.tmps) = false := by
  unfold Region.wanted yielded
  rw [hg]
  simp only [hd, Option.bind_some, ht]
  cases want <;> rfl
theorem run_page_load (x : Operand) (ho : o.op = .load 65 x) (g : Nat) (l : List Int) (hx : a.eval x = .pointer (some ⟨g, 0, none⟩)) (hp : Page W g l) : (execOp a.eval o).run Try.prog W = .ok (.value (.agg (pg l))) W := by
  have := run_loadVar_row W g 65 65 (pg l) (0, 0) _ hp.1 Try.underlying65 rfl (by rw [pg_size, hp.2]; exact size65)
  simp [execOp, ho, hx, Instr.loadAt, Instr.sureAddr, Sem.run_bind, this]
theorem run_page_blank (ho : o.op = .build 65 #[]) (l : List Int) (hl : l = List.replicate 61 0) : (execOp a.eval o).run Try.prog W = .ok (.value (.agg (pg l))) W := by
  subst hl
  have := run_build (P := Try.prog) W 65 #[] _ blank65
  simp [execOp, ho, this, Sem.run_bind]
theorem run_page_eql (x y : Operand) (ho : o.op = .binOp .eql 65 x y 65) (p q : List Int) (hx : a.eval x = .agg (pg p)) (hy : a.eval y = .agg (pg q)) (hp : p.length = 61) (hq : q.length = 61) (b : Bool) (hb : decide (p = q) = b) : (execOp a.eval o).run Try.prog W = .ok (.value (.bool b)) W := by
  simp [execOp, ho, hx, hy, Sem.run_bind, guard65, run_eql_struct, page_same hp hq, hb]
theorem run_page_neq (x y : Operand) (ho : o.op = .binOp .neq 65 x y 65) (p q : List Int) (hx : a.eval x = .agg (pg p)) (hy : a.eval y = .agg (pg q)) (hp : p.length = 61) (hq : q.length = 61) (b : Bool) (hb : decide (p = q) = b) : (execOp a.eval o).run Try.prog W = .ok (.value (.bool !b)) W := by
  simp [execOp, ho, hx, hy, Sem.run_bind, guard65, run_neq_struct, page_same hp hq, hb]
theorem run_make512 (x y : Operand) (ho : o.op = .makeSlice 22 x y) (hx : a.eval x = .int .i64 512) (hy : a.eval y = .int .i64 512) :
    ∃ w1, (execOp a.eval o).run Try.prog W = .ok (.value (.slice (some ⟨W.heap.size, 0, none⟩) 512 512)) w1 ∧ Below W.heap.size W w1 ∧ Kd.C (Kd.int .u8) w1 (some ⟨W.heap.size, 0, none⟩) 512 (List.replicate 512 0) := by
  obtain ⟨i0, hi, hzz⟩ := Option.map_eq_some_iff.1 info5
  simp only [Prod.mk.injEq] at hzz
  obtain ⟨hz0, hz1, hz2⟩ := hzz
  have hr := run_make (P := Try.prog) W 22 5 i0 (.int .u8 0) Try.underlying22 hi hz0 .i64 .i64 512 512 (by omega) (by omega)
    (by rw [hz2]; omega) (by omega)
  rw [hz1] at hr
  have hrow : (Kd.int .u8).R 5 (W.alloc (.cells (madeCells (Value.int .u8 0).cells (512 * 1)) 5)) W.heap.size (fun _ => True) (.slice (some ⟨W.heap.size, 0, none⟩) 512 512) (List.replicate 512 0) := by
    refine ⟨fun k hk => trivial, (madeCells (Value.int .u8 0).cells (512 * 1)).toList, ?_, ?_⟩
    · have h2 := World.ownsRow_lit (base := W.heap.size) (e := 5) (size := 1) W (madeCells (Value.int .u8 0).cells (512 * 1)) 512 (Nat.le_refl _) (by unfold maxLen; omega) (by simp [size_madeCells])
      rw [show (List.replicate 512 (0 : Int)).length = 512 from List.length_replicate]
      exact h2
    · exact (Kd.reps_made (z := .int .u8 0) (z0 := (0 : Int)) (size := 1) rfl (by decide) (show (Kd.int .u8).M W W.heap.size (fun _ => True) 0 [.int .u8 0] from rfl) 512).imp_ (fun p c hp => hp)
  have hC := (Kd.R_reads' hrow).2.2
  rw [show (List.replicate 512 (0 : Int)).length = 512 from List.length_replicate] at hC
  refine ⟨_, ?_, below_alloc (Below.refl _ _) _, hC⟩
  simp only [execOp, ho, hx, hy, Sem.run_bind]
  rw [show (512 : Int).toNat = 512 from rfl] at hr
  rw [hr]
  rfl
theorem reg_make512 {Q : Exit → Act → World → Prop} {S : Value → World → Prop} (hw : Region.wanted o (yielded ops a.tmps) = true) (x y : Operand) (ho : o.op = .makeSlice 22 x y) (hx : a.eval x = .int .i64 512) (hy : a.eval y = .int .i64 512)
    (hS : ∀ A w1, Kd.C (Kd.int .u8) w1 A 512 (List.replicate 512 0) → S (.slice A 512 512) w1) :
    if Region.wanted o (yielded ops a.tmps) = true then o.wp Try.prog a W (fun a' w' => ∃ v, a' = a.put o.dst v ∧ S v w' ∧ Below W.heap.size W w') Q else S undef W := by
  obtain ⟨w1, hr, hb, hC⟩ := run_make512 (W := W) x y ho hx hy
  exact reg_value hw hr (hS _ _ hC) hb
theorem see_value {P : Program} {Q : Exit → Act → World → Prop} {S : Array Value → World → Prop} {v : Value} {w' : World} (hw : Region.wanted o (yielded ops a.tmps) = true) (hrun : (execOp a.eval o).run P W = .ok (.value v) w') (hS : S (a.put o.dst v).tmps w') (hb : Below W.heap.size W w') :
    if Region.wanted o (yielded ops a.tmps) = true then o.wp P a W (fun a' w' => ∃ v, a' = a.put o.dst v ∧ S (a.put o.dst v).tmps w' ∧ Below W.heap.size W w') Q else S (a.put o.dst undef).tmps W := by
  rw [if_pos hw]
  unfold Oper.wp
  rw [hrun]
  exact ⟨v, rfl, hS, hb⟩
theorem see_call {P : Program} {Q : Exit → Act → World → Prop} {S : Array Value → World → Prop} {f : FuncId} {args : Array Value} (hw : Region.wanted o (yielded ops a.tmps) = true) (hrun : (execOp a.eval o).run P W = .ok (.enter f args) W) (h : Calls P f args W fun e w' => ∃ v, e = .returned v ∧ S (a.put o.dst v).tmps w' ∧ Below W.heap.size W w') :
    if Region.wanted o (yielded ops a.tmps) = true then o.wp P a W (fun a' w' => ∃ v, a' = a.put o.dst v ∧ S (a.put o.dst v).tmps w' ∧ Below W.heap.size W w') Q else S (a.put o.dst undef).tmps W := by
  rw [if_pos hw]
  unfold Oper.wp
  rw [hrun, Oper.upon_enter]
  refine h.mono fun e w'' hh => ?_
  obtain ⟨v, rfl, hs, hb⟩ := hh
  exact ⟨v, rfl, hs, hb⟩
theorem put_self {t : Tmp} {v : Value} (h : t < a.tmps.size) : (a.put (some t) v).tmps[t]? = some v := by
  show (a.tmps.setIfInBounds t v)[t]? = _
  rw [Array.getElem?_setIfInBounds_self_of_lt h]
theorem put_other {t s : Tmp} {v : Value} (h : t ≠ s) : (a.put (some t) v).tmps[s]? = a.tmps[s]? := by
  show (a.tmps.setIfInBounds t v)[s]? = _
  rw [Array.getElem?_setIfInBounds_ne h]
end
/-- A row of bytes in one block, marked. -/
theorem R_tag {w : World} {base g n c : Nat} {ok ok' : Nat → Prop} {xs : List Int} (h : (Kd.int .u8).R 5 w base ok (.slice (some ⟨g, 0, none⟩) n c) xs) (hk : ok' g) : (Kd.int .u8).R 5 w base ok' (.slice (some ⟨g, 0, none⟩) n c) xs :=
  ⟨fun k hk' => by
    have : g = k := by simpa [Value.ownBlock] using hk'
    subst this
    exact hk, h.2⟩
theorem R_below_size {w : World} {base : Nat} {ok : Nat → Prop} {v : Value} {xs : List Int} (h : (Kd.int .u8).R 5 w base ok v xs) (k : Nat) (hk : v.ownBlock = some k) : base ≤ k ∧ k < w.heap.size := by
  obtain ⟨inner, ho⟩ := Kd.R_own h
  exact ⟨own_base ho k hk, own_lt ho k hk⟩
end Go.Proofs.Ytbphmpncajfaiaa.K
/- The document's Take: pure. -/
namespace Go.Proofs.Ytbphmpncajfaiaa.M
open Go.RowKit Go.Proofs.YtbphmpncajfaiaaW.PrintWords Go.Proofs.YtbphmpncajfaiaaW.PrintLast Go.Proofs.YtbphmpncajfaiaaW.PrintMore
set_option linter.unusedVariables false
set_option linter.unusedSimpArgs false
/-- How many bytes ahead are 128 or more, of the first k. -/
def lead : Nat → List Int → Nat
  | 0, _ => 0
  | _ + 1, [] => 0
  | k + 1, x :: l => if 128 ≤ x then lead k l + 1 else 0
/-- Seven bits a byte, the lowest first, as a number. -/
def hor : List Int → Int
  | [] => 0
  | x :: l => IntKind.u64.wrap (IntKind.u64.wrap (hor l * 128) + IntKind.u64.wrap (Int.tmod x 128))
theorem hor_range : ∀ l : List Int, 0 ≤ hor l ∧ hor l < 18446744073709551616
  | [] => by simp [hor]
  | x :: l => by rw [hor, IntKind.wrap_u64]; omega
def rtakeOf (b : List Int) : Int × Int :=
  if b.length ≤ lead 10 b ∨ 10 ≤ lead 10 b then (0, 0)
  else if num (zag (hor (b.take (lead 10 b + 1))).toNat) = b.take (lead 10 b + 1) then (zag (hor (b.take (lead 10 b + 1))).toNat, ((lead 10 b + 1 : Nat) : Int)) else (0, 0)
theorem lead_le : ∀ (k : Nat) (l : List Int), lead k l ≤ k ∧ lead k l ≤ l.length
  | 0, _ => ⟨Nat.le_refl _, Nat.zero_le _⟩
  | _ + 1, [] => ⟨Nat.zero_le _, Nat.zero_le _⟩
  | k + 1, x :: l => by
    have := lead_le k l
    rw [lead]
    split
    · simp only [List.length_cons]; omega
    · simp
theorem lead_enc : ∀ (n u k : Nat) (r : List Int), u ≤ n → (enc u).length ≤ k → lead k (enc u ++ r) + 1 = (enc u).length
  | n, u, k, r, hn, hk => by
    by_cases h : u < 128
    · rw [enc_small h] at hk ⊢
      match k, hk with
      | k + 1, _ =>
        rw [List.cons_append, lead, if_neg (by omega)]
        rfl
    · rw [enc_big (by omega)] at hk ⊢
      rw [List.length_cons] at hk
      match k, hk with
      | k + 1, hk =>
        match n, hn with
        | 0, hn => omega
        | n + 1, hn =>
          have ih := lead_enc n (u / 128) k r (by omega) (by omega)
          rw [List.cons_append, lead, if_pos (by omega), List.length_cons]
          omega
theorem hor_enc : ∀ (n u : Nat), u ≤ n → u < 18446744073709551616 → hor (enc u) = (u : Int)
  | n, u, hn, hu => by
    by_cases h : u < 128
    · rw [enc_small h, hor, hor]
      rw [Int.tmod_eq_emod_of_nonneg (by omega), IntKind.wrap_u64, IntKind.wrap_u64, IntKind.wrap_u64]
      omega
    · rw [enc_big (by omega), hor]
      match n, hn with
      | 0, hn => omega
      | n + 1, hn =>
        rw [hor_enc n (u / 128) (by omega) (by omega), Int.tmod_eq_emod_of_nonneg (by omega), IntKind.wrap_u64, IntKind.wrap_u64, IntKind.wrap_u64]
        omega
theorem rtake_eq {b : List Int} (hb : Bytes b) : rtakeOf b = if (takeOf b).2 = 0 then (0, 0) else takeOf b := by
  by_cases h : (takeOf b).2 = 0
  · rw [if_pos h]
    unfold rtakeOf
    by_cases h1 : b.length ≤ lead 10 b ∨ 10 ≤ lead 10 b
    · rw [if_pos h1]
    · rw [if_neg h1]
      by_cases h2 : num (zag (hor (b.take (lead 10 b + 1))).toNat) = b.take (lead 10 b + 1)
      · exfalso
        have hr := hor_range (b.take (lead 10 b + 1))
        have hi : I64 (zag (hor (b.take (lead 10 b + 1))).toNat) := zag_i64 (by omega)
        have hsp : b = num (zag (hor (b.take (lead 10 b + 1))).toNat) ++ b.drop (lead 10 b + 1) := by rw [h2, List.take_append_drop]
        have ht := take_num hi (b.drop (lead 10 b + 1))
        rw [← hsp] at ht
        rw [ht] at h
        have hp : 0 < (num (zag (hor (b.take (lead 10 b + 1))).toNat)).length := enc_pos _
        simp only at h
        omega
      · rw [if_neg h2]
  · rw [if_neg h]
    obtain ⟨m, r, hm, hx, ht⟩ := take_inv hb h
    have hle := num_le hm
    have hp : 0 < (num m).length := enc_pos _
    have hl : lead 10 b + 1 = (num m).length := by rw [hx]; exact lead_enc (zig m) (zig m) 10 r (Nat.le_refl _) hle
    have hbl : b.length = (num m).length + r.length := by rw [hx, List.length_append]
    have htk : b.take (lead 10 b + 1) = num m := by rw [hl, hx]; exact List.take_left
    have hh : hor (num m) = (zig m : Int) := hor_enc (zig m) (zig m) (Nat.le_refl _) (zig_lt hm)
    unfold rtakeOf
    rw [if_neg (by omega), htk, hh, Int.toNat_natCast, zag_zig, if_pos rfl, ht, hl]
end Go.Proofs.Ytbphmpncajfaiaa.M
/- palimpsestref02.Take (function 55). -/
namespace Go.Proofs.Ytbphmpncajfaiaa.K
open Go.RowKit Go.Proofs.Ytbphmpncajfaiaa.M Go.Proofs.Ytbphmpncajfaiaa.Py Go.Proofs.YtbphmpncajfaiaaW.PrintWords Go.Proofs.YtbphmpncajfaiaaW.PrintLast Go.Proofs.YtbphmpncajfaiaaW.PrintMore
set_option linter.unusedVariables false
set_option linter.unusedSimpArgs false
theorem lead_drop {b : List Int} {n : Nat} (k : Nat) (h : n < b.length) : lead (k + 1) (b.drop n) = if 128 ≤ rd b n then lead k (b.drop (n + 1)) + 1 else 0 := by
  rw [List.drop_eq_getElem_cons h, lead, el_rd' h]
theorem hor_drop {t : List Int} {j : Nat} (h : j < t.length) : hor (t.drop j) = IntKind.u64.wrap (IntKind.u64.wrap (hor (t.drop (j + 1)) * 128) + IntKind.u64.wrap (Int.tmod (rd t j) 128)) := by
  rw [List.drop_eq_getElem_cons h, hor, el_rd' h]
set_option maxHeartbeats 16000000 in
set_option maxRecDepth 100000 in
theorem rtake_calls (A : Option Addr) (c : Nat) (b : List Int) (w : World) (hC : Kd.C (Kd.int .u8) w A b.length b) (hc : b.length ≤ c) (hb : Bytes b) (hl : b.length ≤ 140737488300000) :
    Calls Try.prog 55 #[.slice A b.length c] w fun e w' => e = .returned (.tuple #[.int .i64 (rtakeOf b).1, .int .i64 (rtakeOf b).2]) ∧ Below w.heap.size w w' := by
  have HC := Aside0.mk hC
  have LC := Aside0.mk hc
  have BB := Aside0.mk hb
  have LB := Aside0.mk hl
  have HB := Aside0.mk (Below.refl w.heap.size w)
  clear hC hc hb hl
  go_enter Try.func55, Try.ntmps55
  go_wp2
  go_loopg [4] 10 (fun kq v4 w' => ∃ n : Nat, v4 = .int .i64 (n : Int) ∧ Aside0 (n ≤ 10 ∧ n ≤ b.length ∧ kq + n = 10 ∧ n + lead (10 - n) (b.drop n) = lead 10 b) ∧ Aside0 (Below w.heap.size w w'))
  case atStart => exact ⟨0, rfl, ⟨by simp⟩, HB⟩
  case round =>
    clear HB
    obtain ⟨n, rfl, HX, HB⟩ := hrel
    obtain ⟨hn1, hn2, hnk, hnl⟩ := HX.out
    clear HX
    by_cases h1 : n < b.length
    · by_cases h2 : n < 10
      · have c1 : decide ((n : Int) < (b.length : Int)) = true := decide_eq_true (by omega)
        have c2 : decide ((n : Int) < 10) = true := decide_eq_true (by omega)
        obtain ⟨ad, hA, hcl0⟩ := Kd.at_int HC.out (n : Int) (by omega) (by omega)
        subst hA
        have hcl := (HB.out.cell (World.block_lt_of_cell? _ _ hcl0)).trans hcl0
        rw [Int.toNat_natCast] at hcl
        have hld := lead_drop (b := b) (9 - n) h1
        rw [show 9 - n + 1 = 10 - n by omega] at hld
        have q0 : 0 ≤ (n : Int) := by omega
        have q1 : (n : Int) < (b.length : Int) := by omega
        clear hcl0
        by_cases h3 : 128 ≤ rd b (n : Int)
        · obtain ⟨k1, rfl⟩ : ∃ k1, gk = k1 + 1 := ⟨gk - 1, by omega⟩
          have c3 : decide (rd b (n : Int) ≥ 128) = true := decide_eq_true h3
          rw [if_pos h3] at hld
          have HX2 := Aside0.mk (show k1 + (n + 1) = 10 ∧ n + 1 + lead (10 - (n + 1)) (b.drop (n + 1)) = lead 10 b by
            rw [show 10 - (n + 1) = 9 - n by omega]; omega)
          clear hld hnl hnk
          go_wp2
          go_roundg k1
          case measure => omega
          case rel => exact ⟨n + 1, by simp, ⟨by omega, by omega, HX2.out.1, HX2.out.2⟩, HB⟩
        · have c3 : decide (rd b (n : Int) ≥ 128) = false := decide_eq_false h3
          rw [if_neg h3, ] at hld
          rw [hld, Nat.add_zero] at hnl
          have NL := Aside0.mk hnl
          have c4 : decide ((n : Int) ≥ (b.length : Int)) = false := decide_eq_false (by omega)
          have c5 : decide ((n : Int) ≥ 10) = false := decide_eq_false (by omega)
          clear hld hnl hnk
          obtain ⟨t, ht⟩ : ∃ t, t = b.take (n + 1) := ⟨_, rfl⟩
          have NT := Aside0.mk ht
          have LT := Aside0.mk (show t.length = n + 1 by rw [ht, List.length_take]; omega)
          have RT := Aside0.mk (show ∀ j : Nat, j < n + 1 → rd b (j : Int) = rd t (j : Int) by
            intro j hj
            unfold rd
            rw [ht, List.getD_eq_getElem?_getD, List.getD_eq_getElem?_getD, Int.toNat_natCast, List.getElem?_take_of_lt hj])
          clear ht
          go_wp2
          clear hcl
          go_loopg [5, 6] (n + 1) (fun kq v5 v6 w' => ∃ j : Nat, v5 = .int .u64 (hor (t.drop j)) ∧ v6 = .int .i64 ((j : Int) - 1) ∧ Aside0 (j ≤ n + 1 ∧ kq = j) ∧ Aside0 (Below w.heap.size w w'))
          case atStart =>
            refine ⟨n + 1, ?_, ?_, ⟨Nat.le_refl _, rfl⟩, HB⟩
            · rw [List.drop_of_length_le (by rw [LT.out]; exact Nat.le_refl _)]; rfl
            · congr 1; omega
          case round =>
            clear HB
            obtain ⟨j, rfl, rfl, HX, HB⟩ := hrel
            obtain ⟨hj1, hjk⟩ := HX.out
            clear HX
            by_cases h4 : 0 < j
            · obtain ⟨j, rfl⟩ : ∃ i, j = i + 1 := ⟨j - 1, by omega⟩
              obtain ⟨k2, rfl⟩ : ∃ k2, gk = k2 + 1 := ⟨gk - 1, by omega⟩
              have c6 : decide (((j + 1 : Nat) : Int) - 1 ≥ 0) = true := decide_eq_true (by omega)
              have e6 : ((j + 1 : Nat) : Int) - 1 = (j : Int) := by omega
              have c7 : decide ((j : Int) ≥ 0) = true := decide_eq_true (by omega)
              have hjb : (j : Int) < (b.length : Int) := by omega
              have hjb0 : 0 ≤ (j : Int) := by omega
              obtain ⟨ad2, hA2, hcl0⟩ := Kd.at_int HC.out (j : Int) (by omega) (by omega)
              injection hA2 with hA2
              subst hA2
              have hcl := (HB.out.cell (World.block_lt_of_cell? _ _ hcl0)).trans hcl0
              rw [Int.toNat_natCast, RT.out j (by omega)] at hcl
              have HD := Aside0.mk (hor_drop (t := t) (j := j) (by rw [LT.out]; omega))
              have e7 : wrap64 ((j : Int) - 1) = (j : Int) - 1 := by have := LB.out; unfold wrap64; omega
              clear hcl0
              rw [e6]
              go_wp2
              go_roundg k2
              case measure => omega
              case rel => exact ⟨j, by rw [HD.out], rfl, ⟨by omega, by omega⟩, HB⟩
            · obtain rfl : j = 0 := by omega
              have c6 : decide (((0 : Nat) : Int) - 1 ≥ 0) = false := by decide
              rw [List.drop_zero]
              obtain ⟨u, hu⟩ : ∃ u, u = hor t := ⟨_, rfl⟩
              have hur := hor_range t
              rw [← hu] at hur ⊢
              have NU := Aside0.mk hu
              clear hu hjk hj1 h4
              obtain ⟨i0, hi0, _, hsz, _⟩ := info_parts info5
              obtain ⟨hcut, hrd, _⟩ := print_take_int (P := Try.prog) (k := .u8) 22 5 Try.underlying22 hi0 hsz (some ad) c b ((n : Int) + 1) (by omega) (by omega) LC.out
              rw [show ((n : Int) + 1).toNat = n + 1 by omega, ← NT.out] at hcut hrd
              have HBT := Aside0.mk (Kd.C_of_reads (d := (0 : Int)) (h1 := fun _ => rfl) (hrd w (Kd.reads_of_C HC.out)))
              have HCUT := Aside0.mk hcut
              clear hcut hrd hi0 hsz
              obtain ⟨v, hv⟩ : ∃ v, v = zag u.toNat := ⟨_, rfl⟩
              have hvi : I64 v := by rw [hv]; exact zag_i64 (by omega)
              obtain ⟨nv, hnv⟩ : ∃ l, l = num v := ⟨_, rfl⟩
              have BNV := Aside0.mk (show Bytes nv by rw [hnv]; exact num_bytes v)
              have e9 : wrap64 ((n : Int) + 1) = (n : Int) + 1 := by unfold wrap64; omega
              have NV := Aside0.mk (show palimpsestref02_Number.f 11 v = some nv by rw [hnv]; exact number_f hvi 11 (Nat.le_refl _))
              have RES := Aside0.mk (show rtakeOf b = if nv = t then (v, ((n + 1 : Nat) : Int)) else (0, 0) by
                unfold rtakeOf
                rw [← NL.out, if_neg (by omega), ← NT.out, ← NU.out, ← hv, ← hnv])
              by_cases hp : u % 2 = 1
              · have hvv : -(u / 2) - 1 = v := by
                  rw [hv, zag, if_neg (by omega)]
                  omega
                have c8 : (Int.tmod u 2 == 1) = true := by rw [Int.tmod_eq_emod_of_nonneg hur.1, hp]; rfl
                have e8 : Int.tmod u 2 = 1 := by rw [Int.tmod_eq_emod_of_nonneg hur.1]; exact hp
                clear hv hvi hnv
                go_wp2
                by_cases hq : nv = t
                · have R2 := Aside0.mk (show rtakeOf b = (v, (n : Int) + 1) by rw [RES.out, if_pos hq]; rfl)
                  obtain rfl := hq
                  refine region_mem (n := 9) (by kernel_rfl) rfl (fun i => 56 + i) ?hN (fun i j hi_ hj_ h => by have h' : (56 + i) = (56 + j) := h; (repeat' split at h') <;> omega) (fun i hi => by show (56 + i) < _; (repeat' split) <;> (simp; try omega)) ?hdag (fun i u_ w => match i with | 0 => u_ = .int .i64 v | 1 => ∃ A c, u_ = .slice A nv.length c ∧ nv.length ≤ c ∧ Kd.C (Kd.int .u8) w A nv.length nv | 2 => u_ = .string (strOfNums nv) | 3 => u_ = .slice (some ad) b.length c | 4 => u_ = .int .i64 (n : Int) | 5 => u_ = .int .i64 ((n : Int) + 1) | 6 => u_ = .slice (some ad) nv.length c | 7 => u_ = .string (strOfNums nv) | 8 => u_ = .bool false | _ => True) ?hS ?step ?hend
                  case hN =>
                    intro i o ho
                    have hi : i < 9 := (Array.getElem?_eq_some_iff.1 ho).1
                    match i, hi, ho with
                    | 0, _, ho => simp only [List.getElem?_toArray, List.getElem?_cons_zero, List.getElem?_cons_succ, Option.some.injEq] at ho; subst ho; rfl
                    | 1, _, ho => simp only [List.getElem?_toArray, List.getElem?_cons_zero, List.getElem?_cons_succ, Option.some.injEq] at ho; subst ho; rfl
                    | 2, _, ho => simp only [List.getElem?_toArray, List.getElem?_cons_zero, List.getElem?_cons_succ, Option.some.injEq] at ho; subst ho; rfl
                    | 3, _, ho => simp only [List.getElem?_toArray, List.getElem?_cons_zero, List.getElem?_cons_succ, Option.some.injEq] at ho; subst ho; rfl
                    | 4, _, ho => simp only [List.getElem?_toArray, List.getElem?_cons_zero, List.getElem?_cons_succ, Option.some.injEq] at ho; subst ho; rfl
                    | 5, _, ho => simp only [List.getElem?_toArray, List.getElem?_cons_zero, List.getElem?_cons_succ, Option.some.injEq] at ho; subst ho; rfl
                    | 6, _, ho => simp only [List.getElem?_toArray, List.getElem?_cons_zero, List.getElem?_cons_succ, Option.some.injEq] at ho; subst ho; rfl
                    | 7, _, ho => simp only [List.getElem?_toArray, List.getElem?_cons_zero, List.getElem?_cons_succ, Option.some.injEq] at ho; subst ho; rfl
                    | 8, _, ho => simp only [List.getElem?_toArray, List.getElem?_cons_zero, List.getElem?_cons_succ, Option.some.injEq] at ho; subst ho; rfl
                  case hdag =>
                    intro i o ho
                    have hi : i < 9 := (Array.getElem?_eq_some_iff.1 ho).1
                    match i, hi, ho with
                    | 0, _, ho => simp only [List.getElem?_toArray, List.getElem?_cons_zero, List.getElem?_cons_succ, Option.some.injEq] at ho; subst ho; decide
                    | 1, _, ho => simp only [List.getElem?_toArray, List.getElem?_cons_zero, List.getElem?_cons_succ, Option.some.injEq] at ho; subst ho; decide
                    | 2, _, ho => simp only [List.getElem?_toArray, List.getElem?_cons_zero, List.getElem?_cons_succ, Option.some.injEq] at ho; subst ho; decide
                    | 3, _, ho => simp only [List.getElem?_toArray, List.getElem?_cons_zero, List.getElem?_cons_succ, Option.some.injEq] at ho; subst ho; decide
                    | 4, _, ho => simp only [List.getElem?_toArray, List.getElem?_cons_zero, List.getElem?_cons_succ, Option.some.injEq] at ho; subst ho; decide
                    | 5, _, ho => simp only [List.getElem?_toArray, List.getElem?_cons_zero, List.getElem?_cons_succ, Option.some.injEq] at ho; subst ho; decide
                    | 6, _, ho => simp only [List.getElem?_toArray, List.getElem?_cons_zero, List.getElem?_cons_succ, Option.some.injEq] at ho; subst ho; decide
                    | 7, _, ho => simp only [List.getElem?_toArray, List.getElem?_cons_zero, List.getElem?_cons_succ, Option.some.injEq] at ho; subst ho; decide
                    | 8, _, ho => simp only [List.getElem?_toArray, List.getElem?_cons_zero, List.getElem?_cons_succ, Option.some.injEq] at ho; subst ho; decide
                  case hS =>
                    intro i u_ w w' h hb
                    match i, h with
                    | 0, h => exact h
                    | 1, ⟨A, c, h1, h2, h3⟩ => exact ⟨A, c, h1, h2, Kd.C_below h3 hb⟩
                    | 2, h => exact h
                    | 3, h => exact h
                    | 4, h => exact h
                    | 5, h => exact h
                    | 6, h => exact h
                    | 7, h => exact h
                    | 8, h => exact h
                    | _ + 9, _ => trivial
                  case step =>
                    intro i o a w ho hd hs hf hb hdep
                    have hi : i < 9 := (Array.getElem?_eq_some_iff.1 ho).1
                    match i, hi, ho with
                    | 0, _, ho =>
                      simp only [List.getElem?_toArray, List.getElem?_cons_zero, List.getElem?_cons_succ, Option.some.injEq] at ho
                      subst ho
                      have e7 : a.eval (.tmp 7) = .int .i64 v := ev_of ((hf 7 (fun j hj => by show (56 + j) ≠ 7; (repeat' split) <;> omega)).trans rfl)
                      exact reg_value (S := fun u_ w => u_ = .int .i64 v) (v := .int .i64 v) (w' := w) rfl (by simp only [execOp, e7]; go_simp) rfl (Below.refl _ _)
                    | 1, _, ho =>
                      simp only [List.getElem?_toArray, List.getElem?_cons_zero, List.getElem?_cons_succ, Option.some.injEq] at ho
                      subst ho
                      have t56 : a.tmps[56]? = some (.int .i64 v) := by obtain ⟨u_, h1, h2⟩ := hdep ⟨0, .data⟩ (by simp) rfl; rw [show u_ = .int .i64 v from h2] at h1; exact h1
                      have e56 := ev_of t56
                      refine reg_call (S := fun u_ w => ∃ A c, u_ = .slice A nv.length c ∧ nv.length ≤ c ∧ Kd.C (Kd.int .u8) w A nv.length nv) rfl (reg_enters Try.func51 (by kernel_rfl) rfl #[.int .i64 v] rfl (by simp only [List.map_toArray, List.map_cons, List.map_nil, e56])) ?_
                      refine (palimpsestref02_Number.calls 11 v nv w NV.out).mono ?_
                      rintro e w' ⟨v0, rfl, ho, hbw⟩
                      obtain ⟨A, c, he, hl, hC⟩ := Kd.R_reads ho
                      exact ⟨_, rfl, ⟨A, c, he, hl, hC⟩, hbw⟩
                    | 2, _, ho =>
                      simp only [List.getElem?_toArray, List.getElem?_cons_zero, List.getElem?_cons_succ, Option.some.injEq] at ho
                      subst ho
                      obtain ⟨v1, t57, A1, c1, q1, l1, C1⟩ : ∃ v, a.tmps[57]? = some v ∧ ∃ A c, v = .slice A nv.length c ∧ nv.length ≤ c ∧ Kd.C (Kd.int .u8) w A nv.length nv := hdep ⟨1, .data⟩ (by simp) rfl
                      subst q1
                      have e57 := ev_of t57
                      have hcv := Kd.C_string (P := Try.prog) (A := A1) (c := c1) Try.underlying22 Try.underlying5 Try.underlying9 C1
                      exact reg_value (S := fun u_ w => u_ = .string (strOfNums nv)) (v := .string (strOfNums nv)) (w' := w) rfl (by simp only [execOp, e57]; go_simp) rfl (Below.refl _ _)
                    | 3, _, ho =>
                      simp only [List.getElem?_toArray, List.getElem?_cons_zero, List.getElem?_cons_succ, Option.some.injEq] at ho
                      subst ho
                      have e0 : a.eval (.tmp 0) = .slice (some ad) b.length c := ev_of ((hf 0 (fun j hj => by show (56 + j) ≠ 0; (repeat' split) <;> omega)).trans rfl)
                      exact reg_value (S := fun u_ w => u_ = .slice (some ad) b.length c) (v := .slice (some ad) b.length c) (w' := w) rfl (by simp only [execOp, e0]; go_simp) rfl (Below.refl _ _)
                    | 4, _, ho =>
                      simp only [List.getElem?_toArray, List.getElem?_cons_zero, List.getElem?_cons_succ, Option.some.injEq] at ho
                      subst ho
                      have e4 : a.eval (.tmp 4) = .int .i64 (n : Int) := ev_of ((hf 4 (fun j hj => by show (56 + j) ≠ 4; (repeat' split) <;> omega)).trans rfl)
                      exact reg_value (S := fun u_ w => u_ = .int .i64 (n : Int)) (v := .int .i64 (n : Int)) (w' := w) rfl (by simp only [execOp, e4]; go_simp) rfl (Below.refl _ _)
                    | 5, _, ho =>
                      simp only [List.getElem?_toArray, List.getElem?_cons_zero, List.getElem?_cons_succ, Option.some.injEq] at ho
                      subst ho
                      have t60 : a.tmps[60]? = some (.int .i64 (n : Int)) := by obtain ⟨u_, h1, h2⟩ := hdep ⟨4, .data⟩ (by simp) rfl; rw [show u_ = .int .i64 (n : Int) from h2] at h1; exact h1
                      have e60 := ev_of t60
                      exact reg_value (S := fun u_ w => u_ = .int .i64 ((n : Int) + 1)) (v := .int .i64 ((n : Int) + 1)) (w' := w) rfl (by simp only [execOp, e60]; go_simp; first | done | (rw [IntKind.wrap_i64]; omega) | omega) rfl (Below.refl _ _)
                    | 6, _, ho =>
                      simp only [List.getElem?_toArray, List.getElem?_cons_zero, List.getElem?_cons_succ, Option.some.injEq] at ho
                      subst ho
                      have t59 : a.tmps[59]? = some (.slice (some ad) b.length c) := by obtain ⟨u_, h1, h2⟩ := hdep ⟨3, .data⟩ (by simp) rfl; rw [show u_ = .slice (some ad) b.length c from h2] at h1; exact h1
                      have e59 := ev_of t59
                      have t61 : a.tmps[61]? = some (.int .i64 ((n : Int) + 1)) := by obtain ⟨u_, h1, h2⟩ := hdep ⟨5, .data⟩ (by simp) rfl; rw [show u_ = .int .i64 ((n : Int) + 1) from h2] at h1; exact h1
                      have e61 := ev_of t61
                      exact reg_value (S := fun u_ w => u_ = .slice (some ad) nv.length c) (v := .slice (some ad) nv.length c) (w' := w) rfl (by have hc_ := HCUT.out w; simp only [execOp, e59, e61, Option.map_some, Option.map_none, Instr.sliceAt, Sem.run_bind, run_underlying Try.underlying22, hc_, Result.andThen_ok, Sem.run_pure]) rfl (Below.refl _ _)
                    | 7, _, ho =>
                      simp only [List.getElem?_toArray, List.getElem?_cons_zero, List.getElem?_cons_succ, Option.some.injEq] at ho
                      subst ho
                      have t62 : a.tmps[62]? = some (.slice (some ad) nv.length c) := by obtain ⟨u_, h1, h2⟩ := hdep ⟨6, .data⟩ (by simp) rfl; rw [show u_ = .slice (some ad) nv.length c from h2] at h1; exact h1
                      have e62 := ev_of t62
                      have hcv := Kd.C_string (P := Try.prog) (A := (some ad)) (c := c) Try.underlying22 Try.underlying5 Try.underlying9 (Kd.C_below (Kd.C_below HBT.out HB.out) hb)
                      exact reg_value (S := fun u_ w => u_ = .string (strOfNums nv)) (v := .string (strOfNums nv)) (w' := w) rfl (by simp only [execOp, e62]; go_simp) rfl (Below.refl _ _)
                    | 8, _, ho =>
                      simp only [List.getElem?_toArray, List.getElem?_cons_zero, List.getElem?_cons_succ, Option.some.injEq] at ho
                      subst ho
                      have t58 : a.tmps[58]? = some (.string (strOfNums nv)) := by obtain ⟨u_, h1, h2⟩ := hdep ⟨2, .data⟩ (by simp) rfl; rw [show u_ = .string (strOfNums nv) from h2] at h1; exact h1
                      have e58 := ev_of t58
                      have t63 : a.tmps[63]? = some (.string (strOfNums nv)) := by obtain ⟨u_, h1, h2⟩ := hdep ⟨7, .data⟩ (by simp) rfl; rw [show u_ = .string (strOfNums nv) from h2] at h1; exact h1
                      have e63 := ev_of t63
                      exact reg_value (S := fun u_ w => u_ = .bool false) (v := .bool false) (w' := w) rfl (by simp only [execOp, e58, e63]; go_simp) rfl (Below.refl _ _)
                  case hend =>
                    intro vs w hb hall
                    have s0 : vs 0 = .int .i64 v := hall 0 (by omega)
                    obtain ⟨A1, c1, s1, l1, C1⟩ : ∃ A c, vs 1 = .slice A nv.length c ∧ nv.length ≤ c ∧ Kd.C (Kd.int .u8) w A nv.length nv := hall 1 (by omega)
                    have s2 : vs 2 = .string (strOfNums nv) := hall 2 (by omega)
                    have s3 : vs 3 = .slice (some ad) b.length c := hall 3 (by omega)
                    have s4 : vs 4 = .int .i64 (n : Int) := hall 4 (by omega)
                    have s5 : vs 5 = .int .i64 ((n : Int) + 1) := hall 5 (by omega)
                    have s6 : vs 6 = .slice (some ad) nv.length c := hall 6 (by omega)
                    have s7 : vs 7 = .string (strOfNums nv) := hall 7 (by omega)
                    have s8 : vs 8 = .bool false := hall 8 (by omega)
                    simp only [fillN, Act.put, reduceIte, Nat.reduceEqDiff, Nat.reduceAdd, s0, s1, s2, s3, s4, s5, s6, s7, s8, List.setIfInBounds_toArray, List.set_cons_zero, List.set_cons_succ, Nat.reduceAdd]
                    go_wp2
                    go_ret2
                    exact ⟨by rw [R2.out]; rfl, below_step HB.out hb⟩
                · have R2 := Aside0.mk (show rtakeOf b = (0, 0) by rw [RES.out, if_neg hq])
                  have hse : ¬ (strOfNums nv).toList = (strOfNums t).toList := fun e => hq (str_inj BNV.out (by rw [NT.out]; exact BB.out.take _) e)
                  refine region_mem (n := 9) (by kernel_rfl) rfl (fun i => 56 + i) ?hN (fun i j hi_ hj_ h => by have h' : (56 + i) = (56 + j) := h; (repeat' split at h') <;> omega) (fun i hi => by show (56 + i) < _; (repeat' split) <;> (simp; try omega)) ?hdag (fun i u_ w => match i with | 0 => u_ = .int .i64 v | 1 => ∃ A c, u_ = .slice A nv.length c ∧ nv.length ≤ c ∧ Kd.C (Kd.int .u8) w A nv.length nv | 2 => u_ = .string (strOfNums nv) | 3 => u_ = .slice (some ad) b.length c | 4 => u_ = .int .i64 (n : Int) | 5 => u_ = .int .i64 ((n : Int) + 1) | 6 => u_ = .slice (some ad) t.length c | 7 => u_ = .string (strOfNums t) | 8 => u_ = .bool true | _ => True) ?hS ?step ?hend
                  case hN =>
                    intro i o ho
                    have hi : i < 9 := (Array.getElem?_eq_some_iff.1 ho).1
                    match i, hi, ho with
                    | 0, _, ho => simp only [List.getElem?_toArray, List.getElem?_cons_zero, List.getElem?_cons_succ, Option.some.injEq] at ho; subst ho; rfl
                    | 1, _, ho => simp only [List.getElem?_toArray, List.getElem?_cons_zero, List.getElem?_cons_succ, Option.some.injEq] at ho; subst ho; rfl
                    | 2, _, ho => simp only [List.getElem?_toArray, List.getElem?_cons_zero, List.getElem?_cons_succ, Option.some.injEq] at ho; subst ho; rfl
                    | 3, _, ho => simp only [List.getElem?_toArray, List.getElem?_cons_zero, List.getElem?_cons_succ, Option.some.injEq] at ho; subst ho; rfl
                    | 4, _, ho => simp only [List.getElem?_toArray, List.getElem?_cons_zero, List.getElem?_cons_succ, Option.some.injEq] at ho; subst ho; rfl
                    | 5, _, ho => simp only [List.getElem?_toArray, List.getElem?_cons_zero, List.getElem?_cons_succ, Option.some.injEq] at ho; subst ho; rfl
                    | 6, _, ho => simp only [List.getElem?_toArray, List.getElem?_cons_zero, List.getElem?_cons_succ, Option.some.injEq] at ho; subst ho; rfl
                    | 7, _, ho => simp only [List.getElem?_toArray, List.getElem?_cons_zero, List.getElem?_cons_succ, Option.some.injEq] at ho; subst ho; rfl
                    | 8, _, ho => simp only [List.getElem?_toArray, List.getElem?_cons_zero, List.getElem?_cons_succ, Option.some.injEq] at ho; subst ho; rfl
                  case hdag =>
                    intro i o ho
                    have hi : i < 9 := (Array.getElem?_eq_some_iff.1 ho).1
                    match i, hi, ho with
                    | 0, _, ho => simp only [List.getElem?_toArray, List.getElem?_cons_zero, List.getElem?_cons_succ, Option.some.injEq] at ho; subst ho; decide
                    | 1, _, ho => simp only [List.getElem?_toArray, List.getElem?_cons_zero, List.getElem?_cons_succ, Option.some.injEq] at ho; subst ho; decide
                    | 2, _, ho => simp only [List.getElem?_toArray, List.getElem?_cons_zero, List.getElem?_cons_succ, Option.some.injEq] at ho; subst ho; decide
                    | 3, _, ho => simp only [List.getElem?_toArray, List.getElem?_cons_zero, List.getElem?_cons_succ, Option.some.injEq] at ho; subst ho; decide
                    | 4, _, ho => simp only [List.getElem?_toArray, List.getElem?_cons_zero, List.getElem?_cons_succ, Option.some.injEq] at ho; subst ho; decide
                    | 5, _, ho => simp only [List.getElem?_toArray, List.getElem?_cons_zero, List.getElem?_cons_succ, Option.some.injEq] at ho; subst ho; decide
                    | 6, _, ho => simp only [List.getElem?_toArray, List.getElem?_cons_zero, List.getElem?_cons_succ, Option.some.injEq] at ho; subst ho; decide
                    | 7, _, ho => simp only [List.getElem?_toArray, List.getElem?_cons_zero, List.getElem?_cons_succ, Option.some.injEq] at ho; subst ho; decide
                    | 8, _, ho => simp only [List.getElem?_toArray, List.getElem?_cons_zero, List.getElem?_cons_succ, Option.some.injEq] at ho; subst ho; decide
                  case hS =>
                    intro i u_ w w' h hb
                    match i, h with
                    | 0, h => exact h
                    | 1, ⟨A, c, h1, h2, h3⟩ => exact ⟨A, c, h1, h2, Kd.C_below h3 hb⟩
                    | 2, h => exact h
                    | 3, h => exact h
                    | 4, h => exact h
                    | 5, h => exact h
                    | 6, h => exact h
                    | 7, h => exact h
                    | 8, h => exact h
                    | _ + 9, _ => trivial
                  case step =>
                    intro i o a w ho hd hs hf hb hdep
                    have hi : i < 9 := (Array.getElem?_eq_some_iff.1 ho).1
                    match i, hi, ho with
                    | 0, _, ho =>
                      simp only [List.getElem?_toArray, List.getElem?_cons_zero, List.getElem?_cons_succ, Option.some.injEq] at ho
                      subst ho
                      have e7 : a.eval (.tmp 7) = .int .i64 v := ev_of ((hf 7 (fun j hj => by show (56 + j) ≠ 7; (repeat' split) <;> omega)).trans rfl)
                      exact reg_value (S := fun u_ w => u_ = .int .i64 v) (v := .int .i64 v) (w' := w) rfl (by simp only [execOp, e7]; go_simp) rfl (Below.refl _ _)
                    | 1, _, ho =>
                      simp only [List.getElem?_toArray, List.getElem?_cons_zero, List.getElem?_cons_succ, Option.some.injEq] at ho
                      subst ho
                      have t56 : a.tmps[56]? = some (.int .i64 v) := by obtain ⟨u_, h1, h2⟩ := hdep ⟨0, .data⟩ (by simp) rfl; rw [show u_ = .int .i64 v from h2] at h1; exact h1
                      have e56 := ev_of t56
                      refine reg_call (S := fun u_ w => ∃ A c, u_ = .slice A nv.length c ∧ nv.length ≤ c ∧ Kd.C (Kd.int .u8) w A nv.length nv) rfl (reg_enters Try.func51 (by kernel_rfl) rfl #[.int .i64 v] rfl (by simp only [List.map_toArray, List.map_cons, List.map_nil, e56])) ?_
                      refine (palimpsestref02_Number.calls 11 v nv w NV.out).mono ?_
                      rintro e w' ⟨v0, rfl, ho, hbw⟩
                      obtain ⟨A, c, he, hl, hC⟩ := Kd.R_reads ho
                      exact ⟨_, rfl, ⟨A, c, he, hl, hC⟩, hbw⟩
                    | 2, _, ho =>
                      simp only [List.getElem?_toArray, List.getElem?_cons_zero, List.getElem?_cons_succ, Option.some.injEq] at ho
                      subst ho
                      obtain ⟨v1, t57, A1, c1, q1, l1, C1⟩ : ∃ v, a.tmps[57]? = some v ∧ ∃ A c, v = .slice A nv.length c ∧ nv.length ≤ c ∧ Kd.C (Kd.int .u8) w A nv.length nv := hdep ⟨1, .data⟩ (by simp) rfl
                      subst q1
                      have e57 := ev_of t57
                      have hcv := Kd.C_string (P := Try.prog) (A := A1) (c := c1) Try.underlying22 Try.underlying5 Try.underlying9 C1
                      exact reg_value (S := fun u_ w => u_ = .string (strOfNums nv)) (v := .string (strOfNums nv)) (w' := w) rfl (by simp only [execOp, e57]; go_simp) rfl (Below.refl _ _)
                    | 3, _, ho =>
                      simp only [List.getElem?_toArray, List.getElem?_cons_zero, List.getElem?_cons_succ, Option.some.injEq] at ho
                      subst ho
                      have e0 : a.eval (.tmp 0) = .slice (some ad) b.length c := ev_of ((hf 0 (fun j hj => by show (56 + j) ≠ 0; (repeat' split) <;> omega)).trans rfl)
                      exact reg_value (S := fun u_ w => u_ = .slice (some ad) b.length c) (v := .slice (some ad) b.length c) (w' := w) rfl (by simp only [execOp, e0]; go_simp) rfl (Below.refl _ _)
                    | 4, _, ho =>
                      simp only [List.getElem?_toArray, List.getElem?_cons_zero, List.getElem?_cons_succ, Option.some.injEq] at ho
                      subst ho
                      have e4 : a.eval (.tmp 4) = .int .i64 (n : Int) := ev_of ((hf 4 (fun j hj => by show (56 + j) ≠ 4; (repeat' split) <;> omega)).trans rfl)
                      exact reg_value (S := fun u_ w => u_ = .int .i64 (n : Int)) (v := .int .i64 (n : Int)) (w' := w) rfl (by simp only [execOp, e4]; go_simp) rfl (Below.refl _ _)
                    | 5, _, ho =>
                      simp only [List.getElem?_toArray, List.getElem?_cons_zero, List.getElem?_cons_succ, Option.some.injEq] at ho
                      subst ho
                      have t60 : a.tmps[60]? = some (.int .i64 (n : Int)) := by obtain ⟨u_, h1, h2⟩ := hdep ⟨4, .data⟩ (by simp) rfl; rw [show u_ = .int .i64 (n : Int) from h2] at h1; exact h1
                      have e60 := ev_of t60
                      exact reg_value (S := fun u_ w => u_ = .int .i64 ((n : Int) + 1)) (v := .int .i64 ((n : Int) + 1)) (w' := w) rfl (by simp only [execOp, e60]; go_simp; first | done | (rw [IntKind.wrap_i64]; omega) | omega) rfl (Below.refl _ _)
                    | 6, _, ho =>
                      simp only [List.getElem?_toArray, List.getElem?_cons_zero, List.getElem?_cons_succ, Option.some.injEq] at ho
                      subst ho
                      have t59 : a.tmps[59]? = some (.slice (some ad) b.length c) := by obtain ⟨u_, h1, h2⟩ := hdep ⟨3, .data⟩ (by simp) rfl; rw [show u_ = .slice (some ad) b.length c from h2] at h1; exact h1
                      have e59 := ev_of t59
                      have t61 : a.tmps[61]? = some (.int .i64 ((n : Int) + 1)) := by obtain ⟨u_, h1, h2⟩ := hdep ⟨5, .data⟩ (by simp) rfl; rw [show u_ = .int .i64 ((n : Int) + 1) from h2] at h1; exact h1
                      have e61 := ev_of t61
                      exact reg_value (S := fun u_ w => u_ = .slice (some ad) t.length c) (v := .slice (some ad) t.length c) (w' := w) rfl (by have hc_ := HCUT.out w; simp only [execOp, e59, e61, Option.map_some, Option.map_none, Instr.sliceAt, Sem.run_bind, run_underlying Try.underlying22, hc_, Result.andThen_ok, Sem.run_pure]) rfl (Below.refl _ _)
                    | 7, _, ho =>
                      simp only [List.getElem?_toArray, List.getElem?_cons_zero, List.getElem?_cons_succ, Option.some.injEq] at ho
                      subst ho
                      have t62 : a.tmps[62]? = some (.slice (some ad) t.length c) := by obtain ⟨u_, h1, h2⟩ := hdep ⟨6, .data⟩ (by simp) rfl; rw [show u_ = .slice (some ad) t.length c from h2] at h1; exact h1
                      have e62 := ev_of t62
                      have hcv := Kd.C_string (P := Try.prog) (A := (some ad)) (c := c) Try.underlying22 Try.underlying5 Try.underlying9 (Kd.C_below (Kd.C_below HBT.out HB.out) hb)
                      exact reg_value (S := fun u_ w => u_ = .string (strOfNums t)) (v := .string (strOfNums t)) (w' := w) rfl (by simp only [execOp, e62]; go_simp) rfl (Below.refl _ _)
                    | 8, _, ho =>
                      simp only [List.getElem?_toArray, List.getElem?_cons_zero, List.getElem?_cons_succ, Option.some.injEq] at ho
                      subst ho
                      have t58 : a.tmps[58]? = some (.string (strOfNums nv)) := by obtain ⟨u_, h1, h2⟩ := hdep ⟨2, .data⟩ (by simp) rfl; rw [show u_ = .string (strOfNums nv) from h2] at h1; exact h1
                      have e58 := ev_of t58
                      have t63 : a.tmps[63]? = some (.string (strOfNums t)) := by obtain ⟨u_, h1, h2⟩ := hdep ⟨7, .data⟩ (by simp) rfl; rw [show u_ = .string (strOfNums t) from h2] at h1; exact h1
                      have e63 := ev_of t63
                      exact reg_value (S := fun u_ w => u_ = .bool true) (v := .bool true) (w' := w) rfl (by simp only [execOp, e58, e63]; go_simp; first | done | exact hse) rfl (Below.refl _ _)
                  case hend =>
                    intro vs w hb hall
                    have s0 : vs 0 = .int .i64 v := hall 0 (by omega)
                    obtain ⟨A1, c1, s1, l1, C1⟩ : ∃ A c, vs 1 = .slice A nv.length c ∧ nv.length ≤ c ∧ Kd.C (Kd.int .u8) w A nv.length nv := hall 1 (by omega)
                    have s2 : vs 2 = .string (strOfNums nv) := hall 2 (by omega)
                    have s3 : vs 3 = .slice (some ad) b.length c := hall 3 (by omega)
                    have s4 : vs 4 = .int .i64 (n : Int) := hall 4 (by omega)
                    have s5 : vs 5 = .int .i64 ((n : Int) + 1) := hall 5 (by omega)
                    have s6 : vs 6 = .slice (some ad) t.length c := hall 6 (by omega)
                    have s7 : vs 7 = .string (strOfNums t) := hall 7 (by omega)
                    have s8 : vs 8 = .bool true := hall 8 (by omega)
                    simp only [fillN, Act.put, reduceIte, Nat.reduceEqDiff, Nat.reduceAdd, s0, s1, s2, s3, s4, s5, s6, s7, s8, List.setIfInBounds_toArray, List.set_cons_zero, List.set_cons_succ, Nat.reduceAdd]
                    go_wp2
                    go_ret2
                    exact ⟨by rw [R2.out]; rfl, below_step HB.out hb⟩
              · have hvv : u / 2 = v := by
                  rw [hv, zag, if_pos (by omega)]
                  omega
                have c8 : (Int.tmod u 2 == 1) = false := by rw [Int.tmod_eq_emod_of_nonneg hur.1]; simp [hp]
                have e8 : ¬ Int.tmod u 2 = 1 := by rw [Int.tmod_eq_emod_of_nonneg hur.1]; exact hp
                clear hv hvi hnv
                go_wp2
                by_cases hq : nv = t
                · have R2 := Aside0.mk (show rtakeOf b = (v, (n : Int) + 1) by rw [RES.out, if_pos hq]; rfl)
                  obtain rfl := hq
                  refine region_mem (n := 9) (by kernel_rfl) rfl (fun i => 56 + i) ?hN (fun i j hi_ hj_ h => by have h' : (56 + i) = (56 + j) := h; (repeat' split at h') <;> omega) (fun i hi => by show (56 + i) < _; (repeat' split) <;> (simp; try omega)) ?hdag (fun i u_ w => match i with | 0 => u_ = .int .i64 v | 1 => ∃ A c, u_ = .slice A nv.length c ∧ nv.length ≤ c ∧ Kd.C (Kd.int .u8) w A nv.length nv | 2 => u_ = .string (strOfNums nv) | 3 => u_ = .slice (some ad) b.length c | 4 => u_ = .int .i64 (n : Int) | 5 => u_ = .int .i64 ((n : Int) + 1) | 6 => u_ = .slice (some ad) nv.length c | 7 => u_ = .string (strOfNums nv) | 8 => u_ = .bool false | _ => True) ?hS ?step ?hend
                  case hN =>
                    intro i o ho
                    have hi : i < 9 := (Array.getElem?_eq_some_iff.1 ho).1
                    match i, hi, ho with
                    | 0, _, ho => simp only [List.getElem?_toArray, List.getElem?_cons_zero, List.getElem?_cons_succ, Option.some.injEq] at ho; subst ho; rfl
                    | 1, _, ho => simp only [List.getElem?_toArray, List.getElem?_cons_zero, List.getElem?_cons_succ, Option.some.injEq] at ho; subst ho; rfl
                    | 2, _, ho => simp only [List.getElem?_toArray, List.getElem?_cons_zero, List.getElem?_cons_succ, Option.some.injEq] at ho; subst ho; rfl
                    | 3, _, ho => simp only [List.getElem?_toArray, List.getElem?_cons_zero, List.getElem?_cons_succ, Option.some.injEq] at ho; subst ho; rfl
                    | 4, _, ho => simp only [List.getElem?_toArray, List.getElem?_cons_zero, List.getElem?_cons_succ, Option.some.injEq] at ho; subst ho; rfl
                    | 5, _, ho => simp only [List.getElem?_toArray, List.getElem?_cons_zero, List.getElem?_cons_succ, Option.some.injEq] at ho; subst ho; rfl
                    | 6, _, ho => simp only [List.getElem?_toArray, List.getElem?_cons_zero, List.getElem?_cons_succ, Option.some.injEq] at ho; subst ho; rfl
                    | 7, _, ho => simp only [List.getElem?_toArray, List.getElem?_cons_zero, List.getElem?_cons_succ, Option.some.injEq] at ho; subst ho; rfl
                    | 8, _, ho => simp only [List.getElem?_toArray, List.getElem?_cons_zero, List.getElem?_cons_succ, Option.some.injEq] at ho; subst ho; rfl
                  case hdag =>
                    intro i o ho
                    have hi : i < 9 := (Array.getElem?_eq_some_iff.1 ho).1
                    match i, hi, ho with
                    | 0, _, ho => simp only [List.getElem?_toArray, List.getElem?_cons_zero, List.getElem?_cons_succ, Option.some.injEq] at ho; subst ho; decide
                    | 1, _, ho => simp only [List.getElem?_toArray, List.getElem?_cons_zero, List.getElem?_cons_succ, Option.some.injEq] at ho; subst ho; decide
                    | 2, _, ho => simp only [List.getElem?_toArray, List.getElem?_cons_zero, List.getElem?_cons_succ, Option.some.injEq] at ho; subst ho; decide
                    | 3, _, ho => simp only [List.getElem?_toArray, List.getElem?_cons_zero, List.getElem?_cons_succ, Option.some.injEq] at ho; subst ho; decide
                    | 4, _, ho => simp only [List.getElem?_toArray, List.getElem?_cons_zero, List.getElem?_cons_succ, Option.some.injEq] at ho; subst ho; decide
                    | 5, _, ho => simp only [List.getElem?_toArray, List.getElem?_cons_zero, List.getElem?_cons_succ, Option.some.injEq] at ho; subst ho; decide
                    | 6, _, ho => simp only [List.getElem?_toArray, List.getElem?_cons_zero, List.getElem?_cons_succ, Option.some.injEq] at ho; subst ho; decide
                    | 7, _, ho => simp only [List.getElem?_toArray, List.getElem?_cons_zero, List.getElem?_cons_succ, Option.some.injEq] at ho; subst ho; decide
                    | 8, _, ho => simp only [List.getElem?_toArray, List.getElem?_cons_zero, List.getElem?_cons_succ, Option.some.injEq] at ho; subst ho; decide
                  case hS =>
                    intro i u_ w w' h hb
                    match i, h with
                    | 0, h => exact h
                    | 1, ⟨A, c, h1, h2, h3⟩ => exact ⟨A, c, h1, h2, Kd.C_below h3 hb⟩
                    | 2, h => exact h
                    | 3, h => exact h
                    | 4, h => exact h
                    | 5, h => exact h
                    | 6, h => exact h
                    | 7, h => exact h
                    | 8, h => exact h
                    | _ + 9, _ => trivial
                  case step =>
                    intro i o a w ho hd hs hf hb hdep
                    have hi : i < 9 := (Array.getElem?_eq_some_iff.1 ho).1
                    match i, hi, ho with
                    | 0, _, ho =>
                      simp only [List.getElem?_toArray, List.getElem?_cons_zero, List.getElem?_cons_succ, Option.some.injEq] at ho
                      subst ho
                      have e7 : a.eval (.tmp 7) = .int .i64 v := ev_of ((hf 7 (fun j hj => by show (56 + j) ≠ 7; (repeat' split) <;> omega)).trans rfl)
                      exact reg_value (S := fun u_ w => u_ = .int .i64 v) (v := .int .i64 v) (w' := w) rfl (by simp only [execOp, e7]; go_simp) rfl (Below.refl _ _)
                    | 1, _, ho =>
                      simp only [List.getElem?_toArray, List.getElem?_cons_zero, List.getElem?_cons_succ, Option.some.injEq] at ho
                      subst ho
                      have t56 : a.tmps[56]? = some (.int .i64 v) := by obtain ⟨u_, h1, h2⟩ := hdep ⟨0, .data⟩ (by simp) rfl; rw [show u_ = .int .i64 v from h2] at h1; exact h1
                      have e56 := ev_of t56
                      refine reg_call (S := fun u_ w => ∃ A c, u_ = .slice A nv.length c ∧ nv.length ≤ c ∧ Kd.C (Kd.int .u8) w A nv.length nv) rfl (reg_enters Try.func51 (by kernel_rfl) rfl #[.int .i64 v] rfl (by simp only [List.map_toArray, List.map_cons, List.map_nil, e56])) ?_
                      refine (palimpsestref02_Number.calls 11 v nv w NV.out).mono ?_
                      rintro e w' ⟨v0, rfl, ho, hbw⟩
                      obtain ⟨A, c, he, hl, hC⟩ := Kd.R_reads ho
                      exact ⟨_, rfl, ⟨A, c, he, hl, hC⟩, hbw⟩
                    | 2, _, ho =>
                      simp only [List.getElem?_toArray, List.getElem?_cons_zero, List.getElem?_cons_succ, Option.some.injEq] at ho
                      subst ho
                      obtain ⟨v1, t57, A1, c1, q1, l1, C1⟩ : ∃ v, a.tmps[57]? = some v ∧ ∃ A c, v = .slice A nv.length c ∧ nv.length ≤ c ∧ Kd.C (Kd.int .u8) w A nv.length nv := hdep ⟨1, .data⟩ (by simp) rfl
                      subst q1
                      have e57 := ev_of t57
                      have hcv := Kd.C_string (P := Try.prog) (A := A1) (c := c1) Try.underlying22 Try.underlying5 Try.underlying9 C1
                      exact reg_value (S := fun u_ w => u_ = .string (strOfNums nv)) (v := .string (strOfNums nv)) (w' := w) rfl (by simp only [execOp, e57]; go_simp) rfl (Below.refl _ _)
                    | 3, _, ho =>
                      simp only [List.getElem?_toArray, List.getElem?_cons_zero, List.getElem?_cons_succ, Option.some.injEq] at ho
                      subst ho
                      have e0 : a.eval (.tmp 0) = .slice (some ad) b.length c := ev_of ((hf 0 (fun j hj => by show (56 + j) ≠ 0; (repeat' split) <;> omega)).trans rfl)
                      exact reg_value (S := fun u_ w => u_ = .slice (some ad) b.length c) (v := .slice (some ad) b.length c) (w' := w) rfl (by simp only [execOp, e0]; go_simp) rfl (Below.refl _ _)
                    | 4, _, ho =>
                      simp only [List.getElem?_toArray, List.getElem?_cons_zero, List.getElem?_cons_succ, Option.some.injEq] at ho
                      subst ho
                      have e4 : a.eval (.tmp 4) = .int .i64 (n : Int) := ev_of ((hf 4 (fun j hj => by show (56 + j) ≠ 4; (repeat' split) <;> omega)).trans rfl)
                      exact reg_value (S := fun u_ w => u_ = .int .i64 (n : Int)) (v := .int .i64 (n : Int)) (w' := w) rfl (by simp only [execOp, e4]; go_simp) rfl (Below.refl _ _)
                    | 5, _, ho =>
                      simp only [List.getElem?_toArray, List.getElem?_cons_zero, List.getElem?_cons_succ, Option.some.injEq] at ho
                      subst ho
                      have t60 : a.tmps[60]? = some (.int .i64 (n : Int)) := by obtain ⟨u_, h1, h2⟩ := hdep ⟨4, .data⟩ (by simp) rfl; rw [show u_ = .int .i64 (n : Int) from h2] at h1; exact h1
                      have e60 := ev_of t60
                      exact reg_value (S := fun u_ w => u_ = .int .i64 ((n : Int) + 1)) (v := .int .i64 ((n : Int) + 1)) (w' := w) rfl (by simp only [execOp, e60]; go_simp; first | done | (rw [IntKind.wrap_i64]; omega) | omega) rfl (Below.refl _ _)
                    | 6, _, ho =>
                      simp only [List.getElem?_toArray, List.getElem?_cons_zero, List.getElem?_cons_succ, Option.some.injEq] at ho
                      subst ho
                      have t59 : a.tmps[59]? = some (.slice (some ad) b.length c) := by obtain ⟨u_, h1, h2⟩ := hdep ⟨3, .data⟩ (by simp) rfl; rw [show u_ = .slice (some ad) b.length c from h2] at h1; exact h1
                      have e59 := ev_of t59
                      have t61 : a.tmps[61]? = some (.int .i64 ((n : Int) + 1)) := by obtain ⟨u_, h1, h2⟩ := hdep ⟨5, .data⟩ (by simp) rfl; rw [show u_ = .int .i64 ((n : Int) + 1) from h2] at h1; exact h1
                      have e61 := ev_of t61
                      exact reg_value (S := fun u_ w => u_ = .slice (some ad) nv.length c) (v := .slice (some ad) nv.length c) (w' := w) rfl (by have hc_ := HCUT.out w; simp only [execOp, e59, e61, Option.map_some, Option.map_none, Instr.sliceAt, Sem.run_bind, run_underlying Try.underlying22, hc_, Result.andThen_ok, Sem.run_pure]) rfl (Below.refl _ _)
                    | 7, _, ho =>
                      simp only [List.getElem?_toArray, List.getElem?_cons_zero, List.getElem?_cons_succ, Option.some.injEq] at ho
                      subst ho
                      have t62 : a.tmps[62]? = some (.slice (some ad) nv.length c) := by obtain ⟨u_, h1, h2⟩ := hdep ⟨6, .data⟩ (by simp) rfl; rw [show u_ = .slice (some ad) nv.length c from h2] at h1; exact h1
                      have e62 := ev_of t62
                      have hcv := Kd.C_string (P := Try.prog) (A := (some ad)) (c := c) Try.underlying22 Try.underlying5 Try.underlying9 (Kd.C_below (Kd.C_below HBT.out HB.out) hb)
                      exact reg_value (S := fun u_ w => u_ = .string (strOfNums nv)) (v := .string (strOfNums nv)) (w' := w) rfl (by simp only [execOp, e62]; go_simp) rfl (Below.refl _ _)
                    | 8, _, ho =>
                      simp only [List.getElem?_toArray, List.getElem?_cons_zero, List.getElem?_cons_succ, Option.some.injEq] at ho
                      subst ho
                      have t58 : a.tmps[58]? = some (.string (strOfNums nv)) := by obtain ⟨u_, h1, h2⟩ := hdep ⟨2, .data⟩ (by simp) rfl; rw [show u_ = .string (strOfNums nv) from h2] at h1; exact h1
                      have e58 := ev_of t58
                      have t63 : a.tmps[63]? = some (.string (strOfNums nv)) := by obtain ⟨u_, h1, h2⟩ := hdep ⟨7, .data⟩ (by simp) rfl; rw [show u_ = .string (strOfNums nv) from h2] at h1; exact h1
                      have e63 := ev_of t63
                      exact reg_value (S := fun u_ w => u_ = .bool false) (v := .bool false) (w' := w) rfl (by simp only [execOp, e58, e63]; go_simp) rfl (Below.refl _ _)
                  case hend =>
                    intro vs w hb hall
                    have s0 : vs 0 = .int .i64 v := hall 0 (by omega)
                    obtain ⟨A1, c1, s1, l1, C1⟩ : ∃ A c, vs 1 = .slice A nv.length c ∧ nv.length ≤ c ∧ Kd.C (Kd.int .u8) w A nv.length nv := hall 1 (by omega)
                    have s2 : vs 2 = .string (strOfNums nv) := hall 2 (by omega)
                    have s3 : vs 3 = .slice (some ad) b.length c := hall 3 (by omega)
                    have s4 : vs 4 = .int .i64 (n : Int) := hall 4 (by omega)
                    have s5 : vs 5 = .int .i64 ((n : Int) + 1) := hall 5 (by omega)
                    have s6 : vs 6 = .slice (some ad) nv.length c := hall 6 (by omega)
                    have s7 : vs 7 = .string (strOfNums nv) := hall 7 (by omega)
                    have s8 : vs 8 = .bool false := hall 8 (by omega)
                    simp only [fillN, Act.put, reduceIte, Nat.reduceEqDiff, Nat.reduceAdd, s0, s1, s2, s3, s4, s5, s6, s7, s8, List.setIfInBounds_toArray, List.set_cons_zero, List.set_cons_succ, Nat.reduceAdd]
                    go_wp2
                    go_ret2
                    exact ⟨by rw [R2.out]; rfl, below_step HB.out hb⟩
                · have R2 := Aside0.mk (show rtakeOf b = (0, 0) by rw [RES.out, if_neg hq])
                  have hse : ¬ (strOfNums nv).toList = (strOfNums t).toList := fun e => hq (str_inj BNV.out (by rw [NT.out]; exact BB.out.take _) e)
                  refine region_mem (n := 9) (by kernel_rfl) rfl (fun i => 56 + i) ?hN (fun i j hi_ hj_ h => by have h' : (56 + i) = (56 + j) := h; (repeat' split at h') <;> omega) (fun i hi => by show (56 + i) < _; (repeat' split) <;> (simp; try omega)) ?hdag (fun i u_ w => match i with | 0 => u_ = .int .i64 v | 1 => ∃ A c, u_ = .slice A nv.length c ∧ nv.length ≤ c ∧ Kd.C (Kd.int .u8) w A nv.length nv | 2 => u_ = .string (strOfNums nv) | 3 => u_ = .slice (some ad) b.length c | 4 => u_ = .int .i64 (n : Int) | 5 => u_ = .int .i64 ((n : Int) + 1) | 6 => u_ = .slice (some ad) t.length c | 7 => u_ = .string (strOfNums t) | 8 => u_ = .bool true | _ => True) ?hS ?step ?hend
                  case hN =>
                    intro i o ho
                    have hi : i < 9 := (Array.getElem?_eq_some_iff.1 ho).1
                    match i, hi, ho with
                    | 0, _, ho => simp only [List.getElem?_toArray, List.getElem?_cons_zero, List.getElem?_cons_succ, Option.some.injEq] at ho; subst ho; rfl
                    | 1, _, ho => simp only [List.getElem?_toArray, List.getElem?_cons_zero, List.getElem?_cons_succ, Option.some.injEq] at ho; subst ho; rfl
                    | 2, _, ho => simp only [List.getElem?_toArray, List.getElem?_cons_zero, List.getElem?_cons_succ, Option.some.injEq] at ho; subst ho; rfl
                    | 3, _, ho => simp only [List.getElem?_toArray, List.getElem?_cons_zero, List.getElem?_cons_succ, Option.some.injEq] at ho; subst ho; rfl
                    | 4, _, ho => simp only [List.getElem?_toArray, List.getElem?_cons_zero, List.getElem?_cons_succ, Option.some.injEq] at ho; subst ho; rfl
                    | 5, _, ho => simp only [List.getElem?_toArray, List.getElem?_cons_zero, List.getElem?_cons_succ, Option.some.injEq] at ho; subst ho; rfl
                    | 6, _, ho => simp only [List.getElem?_toArray, List.getElem?_cons_zero, List.getElem?_cons_succ, Option.some.injEq] at ho; subst ho; rfl
                    | 7, _, ho => simp only [List.getElem?_toArray, List.getElem?_cons_zero, List.getElem?_cons_succ, Option.some.injEq] at ho; subst ho; rfl
                    | 8, _, ho => simp only [List.getElem?_toArray, List.getElem?_cons_zero, List.getElem?_cons_succ, Option.some.injEq] at ho; subst ho; rfl
                  case hdag =>
                    intro i o ho
                    have hi : i < 9 := (Array.getElem?_eq_some_iff.1 ho).1
                    match i, hi, ho with
                    | 0, _, ho => simp only [List.getElem?_toArray, List.getElem?_cons_zero, List.getElem?_cons_succ, Option.some.injEq] at ho; subst ho; decide
                    | 1, _, ho => simp only [List.getElem?_toArray, List.getElem?_cons_zero, List.getElem?_cons_succ, Option.some.injEq] at ho; subst ho; decide
                    | 2, _, ho => simp only [List.getElem?_toArray, List.getElem?_cons_zero, List.getElem?_cons_succ, Option.some.injEq] at ho; subst ho; decide
                    | 3, _, ho => simp only [List.getElem?_toArray, List.getElem?_cons_zero, List.getElem?_cons_succ, Option.some.injEq] at ho; subst ho; decide
                    | 4, _, ho => simp only [List.getElem?_toArray, List.getElem?_cons_zero, List.getElem?_cons_succ, Option.some.injEq] at ho; subst ho; decide
                    | 5, _, ho => simp only [List.getElem?_toArray, List.getElem?_cons_zero, List.getElem?_cons_succ, Option.some.injEq] at ho; subst ho; decide
                    | 6, _, ho => simp only [List.getElem?_toArray, List.getElem?_cons_zero, List.getElem?_cons_succ, Option.some.injEq] at ho; subst ho; decide
                    | 7, _, ho => simp only [List.getElem?_toArray, List.getElem?_cons_zero, List.getElem?_cons_succ, Option.some.injEq] at ho; subst ho; decide
                    | 8, _, ho => simp only [List.getElem?_toArray, List.getElem?_cons_zero, List.getElem?_cons_succ, Option.some.injEq] at ho; subst ho; decide
                  case hS =>
                    intro i u_ w w' h hb
                    match i, h with
                    | 0, h => exact h
                    | 1, ⟨A, c, h1, h2, h3⟩ => exact ⟨A, c, h1, h2, Kd.C_below h3 hb⟩
                    | 2, h => exact h
                    | 3, h => exact h
                    | 4, h => exact h
                    | 5, h => exact h
                    | 6, h => exact h
                    | 7, h => exact h
                    | 8, h => exact h
                    | _ + 9, _ => trivial
                  case step =>
                    intro i o a w ho hd hs hf hb hdep
                    have hi : i < 9 := (Array.getElem?_eq_some_iff.1 ho).1
                    match i, hi, ho with
                    | 0, _, ho =>
                      simp only [List.getElem?_toArray, List.getElem?_cons_zero, List.getElem?_cons_succ, Option.some.injEq] at ho
                      subst ho
                      have e7 : a.eval (.tmp 7) = .int .i64 v := ev_of ((hf 7 (fun j hj => by show (56 + j) ≠ 7; (repeat' split) <;> omega)).trans rfl)
                      exact reg_value (S := fun u_ w => u_ = .int .i64 v) (v := .int .i64 v) (w' := w) rfl (by simp only [execOp, e7]; go_simp) rfl (Below.refl _ _)
                    | 1, _, ho =>
                      simp only [List.getElem?_toArray, List.getElem?_cons_zero, List.getElem?_cons_succ, Option.some.injEq] at ho
                      subst ho
                      have t56 : a.tmps[56]? = some (.int .i64 v) := by obtain ⟨u_, h1, h2⟩ := hdep ⟨0, .data⟩ (by simp) rfl; rw [show u_ = .int .i64 v from h2] at h1; exact h1
                      have e56 := ev_of t56
                      refine reg_call (S := fun u_ w => ∃ A c, u_ = .slice A nv.length c ∧ nv.length ≤ c ∧ Kd.C (Kd.int .u8) w A nv.length nv) rfl (reg_enters Try.func51 (by kernel_rfl) rfl #[.int .i64 v] rfl (by simp only [List.map_toArray, List.map_cons, List.map_nil, e56])) ?_
                      refine (palimpsestref02_Number.calls 11 v nv w NV.out).mono ?_
                      rintro e w' ⟨v0, rfl, ho, hbw⟩
                      obtain ⟨A, c, he, hl, hC⟩ := Kd.R_reads ho
                      exact ⟨_, rfl, ⟨A, c, he, hl, hC⟩, hbw⟩
                    | 2, _, ho =>
                      simp only [List.getElem?_toArray, List.getElem?_cons_zero, List.getElem?_cons_succ, Option.some.injEq] at ho
                      subst ho
                      obtain ⟨v1, t57, A1, c1, q1, l1, C1⟩ : ∃ v, a.tmps[57]? = some v ∧ ∃ A c, v = .slice A nv.length c ∧ nv.length ≤ c ∧ Kd.C (Kd.int .u8) w A nv.length nv := hdep ⟨1, .data⟩ (by simp) rfl
                      subst q1
                      have e57 := ev_of t57
                      have hcv := Kd.C_string (P := Try.prog) (A := A1) (c := c1) Try.underlying22 Try.underlying5 Try.underlying9 C1
                      exact reg_value (S := fun u_ w => u_ = .string (strOfNums nv)) (v := .string (strOfNums nv)) (w' := w) rfl (by simp only [execOp, e57]; go_simp) rfl (Below.refl _ _)
                    | 3, _, ho =>
                      simp only [List.getElem?_toArray, List.getElem?_cons_zero, List.getElem?_cons_succ, Option.some.injEq] at ho
                      subst ho
                      have e0 : a.eval (.tmp 0) = .slice (some ad) b.length c := ev_of ((hf 0 (fun j hj => by show (56 + j) ≠ 0; (repeat' split) <;> omega)).trans rfl)
                      exact reg_value (S := fun u_ w => u_ = .slice (some ad) b.length c) (v := .slice (some ad) b.length c) (w' := w) rfl (by simp only [execOp, e0]; go_simp) rfl (Below.refl _ _)
                    | 4, _, ho =>
                      simp only [List.getElem?_toArray, List.getElem?_cons_zero, List.getElem?_cons_succ, Option.some.injEq] at ho
                      subst ho
                      have e4 : a.eval (.tmp 4) = .int .i64 (n : Int) := ev_of ((hf 4 (fun j hj => by show (56 + j) ≠ 4; (repeat' split) <;> omega)).trans rfl)
                      exact reg_value (S := fun u_ w => u_ = .int .i64 (n : Int)) (v := .int .i64 (n : Int)) (w' := w) rfl (by simp only [execOp, e4]; go_simp) rfl (Below.refl _ _)
                    | 5, _, ho =>
                      simp only [List.getElem?_toArray, List.getElem?_cons_zero, List.getElem?_cons_succ, Option.some.injEq] at ho
                      subst ho
                      have t60 : a.tmps[60]? = some (.int .i64 (n : Int)) := by obtain ⟨u_, h1, h2⟩ := hdep ⟨4, .data⟩ (by simp) rfl; rw [show u_ = .int .i64 (n : Int) from h2] at h1; exact h1
                      have e60 := ev_of t60
                      exact reg_value (S := fun u_ w => u_ = .int .i64 ((n : Int) + 1)) (v := .int .i64 ((n : Int) + 1)) (w' := w) rfl (by simp only [execOp, e60]; go_simp; first | done | (rw [IntKind.wrap_i64]; omega) | omega) rfl (Below.refl _ _)
                    | 6, _, ho =>
                      simp only [List.getElem?_toArray, List.getElem?_cons_zero, List.getElem?_cons_succ, Option.some.injEq] at ho
                      subst ho
                      have t59 : a.tmps[59]? = some (.slice (some ad) b.length c) := by obtain ⟨u_, h1, h2⟩ := hdep ⟨3, .data⟩ (by simp) rfl; rw [show u_ = .slice (some ad) b.length c from h2] at h1; exact h1
                      have e59 := ev_of t59
                      have t61 : a.tmps[61]? = some (.int .i64 ((n : Int) + 1)) := by obtain ⟨u_, h1, h2⟩ := hdep ⟨5, .data⟩ (by simp) rfl; rw [show u_ = .int .i64 ((n : Int) + 1) from h2] at h1; exact h1
                      have e61 := ev_of t61
                      exact reg_value (S := fun u_ w => u_ = .slice (some ad) t.length c) (v := .slice (some ad) t.length c) (w' := w) rfl (by have hc_ := HCUT.out w; simp only [execOp, e59, e61, Option.map_some, Option.map_none, Instr.sliceAt, Sem.run_bind, run_underlying Try.underlying22, hc_, Result.andThen_ok, Sem.run_pure]) rfl (Below.refl _ _)
                    | 7, _, ho =>
                      simp only [List.getElem?_toArray, List.getElem?_cons_zero, List.getElem?_cons_succ, Option.some.injEq] at ho
                      subst ho
                      have t62 : a.tmps[62]? = some (.slice (some ad) t.length c) := by obtain ⟨u_, h1, h2⟩ := hdep ⟨6, .data⟩ (by simp) rfl; rw [show u_ = .slice (some ad) t.length c from h2] at h1; exact h1
                      have e62 := ev_of t62
                      have hcv := Kd.C_string (P := Try.prog) (A := (some ad)) (c := c) Try.underlying22 Try.underlying5 Try.underlying9 (Kd.C_below (Kd.C_below HBT.out HB.out) hb)
                      exact reg_value (S := fun u_ w => u_ = .string (strOfNums t)) (v := .string (strOfNums t)) (w' := w) rfl (by simp only [execOp, e62]; go_simp) rfl (Below.refl _ _)
                    | 8, _, ho =>
                      simp only [List.getElem?_toArray, List.getElem?_cons_zero, List.getElem?_cons_succ, Option.some.injEq] at ho
                      subst ho
                      have t58 : a.tmps[58]? = some (.string (strOfNums nv)) := by obtain ⟨u_, h1, h2⟩ := hdep ⟨2, .data⟩ (by simp) rfl; rw [show u_ = .string (strOfNums nv) from h2] at h1; exact h1
                      have e58 := ev_of t58
                      have t63 : a.tmps[63]? = some (.string (strOfNums t)) := by obtain ⟨u_, h1, h2⟩ := hdep ⟨7, .data⟩ (by simp) rfl; rw [show u_ = .string (strOfNums t) from h2] at h1; exact h1
                      have e63 := ev_of t63
                      exact reg_value (S := fun u_ w => u_ = .bool true) (v := .bool true) (w' := w) rfl (by simp only [execOp, e58, e63]; go_simp; first | done | exact hse) rfl (Below.refl _ _)
                  case hend =>
                    intro vs w hb hall
                    have s0 : vs 0 = .int .i64 v := hall 0 (by omega)
                    obtain ⟨A1, c1, s1, l1, C1⟩ : ∃ A c, vs 1 = .slice A nv.length c ∧ nv.length ≤ c ∧ Kd.C (Kd.int .u8) w A nv.length nv := hall 1 (by omega)
                    have s2 : vs 2 = .string (strOfNums nv) := hall 2 (by omega)
                    have s3 : vs 3 = .slice (some ad) b.length c := hall 3 (by omega)
                    have s4 : vs 4 = .int .i64 (n : Int) := hall 4 (by omega)
                    have s5 : vs 5 = .int .i64 ((n : Int) + 1) := hall 5 (by omega)
                    have s6 : vs 6 = .slice (some ad) t.length c := hall 6 (by omega)
                    have s7 : vs 7 = .string (strOfNums t) := hall 7 (by omega)
                    have s8 : vs 8 = .bool true := hall 8 (by omega)
                    simp only [fillN, Act.put, reduceIte, Nat.reduceEqDiff, Nat.reduceAdd, s0, s1, s2, s3, s4, s5, s6, s7, s8, List.setIfInBounds_toArray, List.set_cons_zero, List.set_cons_succ, Nat.reduceAdd]
                    go_wp2
                    go_ret2
                    exact ⟨by rw [R2.out]; rfl, below_step HB.out hb⟩
      · have c1 : decide ((n : Int) < (b.length : Int)) = true := decide_eq_true (by omega)
        have c2 : decide ((n : Int) < 10) = false := decide_eq_false (by omega)
        have c4 : decide ((n : Int) ≥ (b.length : Int)) = false := decide_eq_false (by omega)
        have c5 : decide ((n : Int) ≥ 10) = true := decide_eq_true (by omega)
        have R2 := Aside0.mk (show rtakeOf b = (0, 0) by unfold rtakeOf; rw [if_pos (.inr (by omega))])
        clear hnl hnk
        go_wp2
        go_ret2
        exact ⟨by rw [R2.out]; rfl, HB.out⟩
    · have c1 : decide ((n : Int) < (b.length : Int)) = false := decide_eq_false (by omega)
      have c4 : decide ((n : Int) ≥ (b.length : Int)) = true := decide_eq_true (by omega)
      have R2 := Aside0.mk (show rtakeOf b = (0, 0) by unfold rtakeOf; rw [if_pos (.inl (by omega))])
      clear hnl hnk
      go_wp2
      go_ret2
      exact ⟨by rw [R2.out]; rfl, HB.out⟩
end Go.Proofs.Ytbphmpncajfaiaa.K
/- palimpsestref05.Encode (function 40). -/
namespace Go.Proofs.Ytbphmpncajfaiaa.K
open Go.RowKit Go.Proofs.Ytbphmpncajfaiaa.M Go.Proofs.Ytbphmpncajfaiaa.Py Go.Proofs.YtbphmpncajfaiaaW.PrintWords Go.Proofs.YtbphmpncajfaiaaW.PrintLast Go.Proofs.YtbphmpncajfaiaaW.PrintMore
set_option linter.unusedVariables false
set_option linter.unusedSimpArgs false
set_option maxHeartbeats 8000000 in
set_option maxRecDepth 100000 in
theorem rencode_calls (lsn : Int) (l : List Int) (w : World) (hl : l.length = 60) (K1 K2 : Nat) (pn bx : List Int) (er : Int) (h1 : palimpsestref02_Number.f K1 lsn = some pn) (hp : pn.length ≤ 10) (h2 : palimpsestref02_Box.f K2 512 (pn ++ eights l 60) = some (bx, er)) :
    Calls Try.prog 40 #[.agg (pg (lsn :: l))] w fun e w' => ∃ v, e = .returned v ∧ Kd.R (Kd.int .u8) 5 w' w.heap.size (fun _ => True) v bx ∧ Below w.heap.size w w' := by
  have HL := Aside0.mk hl
  have HB := Aside0.mk (Below.refl w.heap.size w)
  obtain ⟨q, hq⟩ : ∃ q, q = lsn :: l := ⟨_, rfl⟩
  have NQ := Aside0.mk hq
  have A1 := Aside0.mk h1
  have A2 := Aside0.mk h2
  have LP := Aside0.mk hp
  rw [← hq]
  clear hl hq h1 h2 hp
  go_enter Try.func40, Try.ntmps40
  go_wp2_with (first | ((with_reducible refine gate_dst (N := 1) rfl ?_); refine page_box rfl _ rfl q (by rw [NQ.out, List.length_cons, HL.out]) rfl ?_; intro g w1 hg hp hb; have HP := Aside0.mk (show Page w1 g (lsn :: l) by rw [← NQ.out]; exact hp); have hc0 := HP.out.cell 0 lsn rfl; replace HB := Aside0.mk (below_step HB.out hb); clear hp hb hg) | ((with_reducible refine gate_callee (f := 51) rfl ?_); (with_reducible refine gate_dst (N := 11) rfl ?_); refine goesL_ (some 11) rfl rfl Try.func51 (by kernel_rfl) rfl #[.int .i64 lsn] rfl (by (try simp only [List.map_toArray, List.map_cons, List.map_nil]); first | done | rfl) ?_; (refine (palimpsestref02_Number.calls K1 lsn pn _ A1.out).mono ?_); rintro e w2 ⟨v_pn, rfl, ho_, hb_⟩; refine ⟨_, rfl, ?_⟩; have HO := Aside0.mk (Kd.R_lower ho_ (below_size HB.out)); replace HP := Aside0.mk (HP.out.below hb_); replace HB := Aside0.mk (below_step HB.out hb_); clear ho_ hb_ hc0))
  go_loopg [3, 4] 60 (fun kq v3 v4 w' => ∃ x : Int, v4 = .int .i64 x ∧ Aside0 (0 ≤ x ∧ x ≤ 60 ∧ kq + x.toNat = 60) ∧ Aside0 (Kd.R (Kd.int .u8) 5 w' w.heap.size (fun _ => True) v3 (pn ++ eights l x.toNat)) ∧ Aside0 (Page w' g (lsn :: l)) ∧ Aside0 (Below w.heap.size w w'))
  case atStart => exact ⟨0, rfl, ⟨by omega⟩, ⟨by simpa [eights] using HO.out⟩, HP, HB⟩
  case round =>
    clear HO HB HP
    obtain ⟨x, rfl, HX, HO, HP, HB⟩ := hrel
    obtain ⟨hx0, hx1, hxk⟩ := HX.out
    by_cases hlt : x < 60
    · obtain ⟨k1, rfl⟩ : ∃ k1, gk = k1 + 1 := ⟨gk - 1, by omega⟩
      have HXK := Aside0.mk hxk
      have c1 : decide (x < 60) = true := decide_eq_true hlt
      obtain ⟨n, hn⟩ : ∃ n, n = rd l x := ⟨_, rfl⟩
      have NN := Aside0.mk hn
      have hcl := HP.out.cell (1 + x.toNat) n (by rw [hn, show 1 + x.toNat = x.toNat + 1 by omega, List.getElem?_cons_succ]; exact rd_at hx0 (by rw [HL.out]; omega))
      have q0 := eq_true hx0
      have q1 := eq_true hlt
      clear hxk HX hn
      go_wp2
      go_loopg [3, 6] 8 (fun kq v3 v6 w' => ∃ (k : Nat), v6 = .int .i64 (k : Int) ∧ Aside0 (k ≤ 8 ∧ kq + k = 8) ∧ Aside0 (Kd.R (Kd.int .u8) 5 w' w.heap.size (fun _ => True) v3 (pn ++ eights l x.toNat ++ eight n k)) ∧ Aside0 (Page w' g (lsn :: l)) ∧ Aside0 (Below w.heap.size w w'))
      case atStart => exact ⟨0, rfl, ⟨by omega⟩, ⟨by simpa [eight] using HO.out⟩, HP, HB⟩
      case round =>
        clear HO HB HP hcl
        obtain ⟨k, rfl, HX, HO, HP, HB⟩ := hrel
        obtain ⟨hk8, hkk⟩ := HX.out
        by_cases hge : (k : Int) < 8
        · obtain ⟨k2, rfl⟩ : ∃ k2, gk = k2 + 1 := ⟨gk - 1, by omega⟩
          have c2 : decide ((k : Int) < 8) = true := decide_eq_true hge
          have HX2 := Aside0.mk hkk
          clear hkk HX
          have HLL := Aside0.mk (show (pn ++ eights l x.toNat ++ eight n k).length + 1 ≤ 1000 by
            have h1 := eights_len l x.toNat (by omega)
            have h2 := LP.out
            have h3 := HL.out
            rw [List.length_append, List.length_append, eight_len]
            omega)
          have HN := Aside0.mk (Kd.R_ne HO.out HP.out.1 (by decide))
          have ew : wrap64 (56 - wrap64 (8 * (k : Int))) = 56 - 8 * (k : Int) := by unfold wrap64; omega
          have ew2 : wrap64 (8 * (k : Int)) = 8 * (k : Int) := by unfold wrap64; omega
          go_wp2_with (first | ((with_reducible refine gate_builtin (b := .append) (xs := #[.tmp 25, .tmp 33]) rfl ?_); at_builtin; refine Kd.R_append (Kd.int .u8) (w0 := w) w.heap.size rfl (.tmp 25) (.tmp 33) 22 5 (.int .u8 0) 1 rfl Try.underlying22 info5 rfl (by decide) (by omega) u3 (pn ++ eights l x.toNat ++ eight n k) (IntKind.u64.wrap n / 2 ^ (56 - 8 * k) % 256) [.int .u8 (IntKind.u64.wrap n / 2 ^ (56 - 8 * k) % 256)] (fun _ => True) (fun _ => False) rfl rfl ?aP (fun _ hk => hk.elim) ?aF ?aO ?aB ?aS ?aL ?_; (case aP => exact rfl); (case aB => exact HB.out); (case aF => exact (fun _ _ => trivial)); (case aO => exact HO.out); (case aS => exact below_size HB.out); (case aL => have := HLL.out; omega); intro v1 w1 ho hb hg hat; replace HO := Aside0.mk ho; replace HP := Aside0.mk (HP.out.grown hg HN.out); replace HB := Aside0.mk hb; clear ho hb hg hat))
          go_roundg k2
          case measure => omega
          case rel =>
            refine ⟨k + 1, rfl, ⟨by have := HX2.out; omega⟩, ⟨?_⟩, HP, HB⟩
            rw [eight_succ, ← List.append_assoc, show byteAt n k = IntKind.u64.wrap n / 2 ^ (56 - 8 * k) % 256 by unfold byteAt; rw [IntKind.wrap_u64]]
            exact HO.out
        · have c2 : decide ((k : Int) < 8) = false := decide_eq_false hge
          obtain rfl : k = 8 := by omega
          clear hkk HX
          go_wp2
          go_roundg k1
          case measure => omega
          case rel => exact ⟨x + 1, rfl, ⟨by have := HXK.out; omega⟩, ⟨by rw [show (x + 1).toNat = x.toNat + 1 by omega, eights_succ l x hx0 (by rw [HL.out]; omega), ← NN.out, ← List.append_assoc]; exact HO.out⟩, HP, HB⟩
    · have c1 : decide (x < 60) = false := decide_eq_false hlt
      obtain rfl : x = 60 := by omega
      clear hxk HX
      have ho := HO.out
      rw [show (60 : Int).toNat = 60 from rfl] at ho
      obtain ⟨inn, hin⟩ : ∃ z, z = pn ++ eights l 60 := ⟨_, rfl⟩
      rw [← hin] at ho
      obtain ⟨A_i, c_i, e_i⟩ := Kd.R_slice ho
      subst e_i
      have HI := Aside0.mk ho
      have A3 := Aside0.mk (show palimpsestref02_Box.f K2 512 inn = some (bx, er) by rw [hin]; exact A2.out)
      clear ho hin HO A2
      go_wp2_with ((with_reducible refine gate_callee (f := 27) rfl ?_); (with_reducible refine gate_dst (N := 37) rfl ?_); refine goesL_ (some 37) rfl rfl Try.func27 (by kernel_rfl) rfl #[.int .i64 512, .slice A_i inn.length c_i] rfl (by (try simp only [List.map_toArray, List.map_cons, List.map_nil]); first | done | rfl) ?_; (refine (palimpsestref02_Box.calls K2 512 _ _ inn bx er _ ?side1 ?side2 A3.out).mono ?_); (case side1 => exact (Kd.R_reads' HI.out).2.2); (case side2 => exact (Kd.R_reads' HI.out).2.1); rintro e w_bx ⟨v_bx, rfl, ho_, hb_⟩; refine ⟨_, rfl, ?_⟩; have H_bx := Aside0.mk (Kd.R_lower ho_ (below_size HB.out)); replace HB := Aside0.mk (below_step HB.out hb_); clear ho_ hb_)
      go_ret
      exact ⟨_, rfl, H_bx.out, HB.out⟩
theorem rencode_page (p : List Int) (w : World) (hn : ∀ x ∈ p, I64 x) (hl : p.length = 61) :
    Calls Try.prog 40 #[.agg (pg p)] w fun e w' => ∃ v, e = .returned v ∧ Kd.R (Kd.int .u8) 5 w' w.heap.size (fun _ => True) v (encodeOf (p.headD 0) p.tail) ∧ Below w.heap.size w w' := by
  match p, hn, hl with
  | n :: l, hn, hl =>
    have h1 := hn n List.mem_cons_self
    have h2 : l.length = 60 := by simpa using hl
    have k1 := number_f h1 11 (Nat.le_refl _)
    obtain ⟨K2, k2⟩ := ref_box 512 (fl_bytes n l) (by have := (encode_fit h1 h2).1; omega)
    have k2 := k2 K2 (Nat.le_refl _)
    dsimp only at k2
    rw [encode_box h1 h2] at k2
    exact rencode_calls n l w h2 11 K2 _ _ _ k1 (num_le h1) k2
end Go.Proofs.Ytbphmpncajfaiaa.K
/- The document's Decode: pure. -/
namespace Go.Proofs.Ytbphmpncajfaiaa.M
open Go.RowKit Go.Proofs.Ytbphmpncajfaiaa.K Go.Proofs.YtbphmpncajfaiaaW.PrintWords Go.Proofs.YtbphmpncajfaiaaW.PrintLast Go.Proofs.YtbphmpncajfaiaaW.PrintMore
set_option linter.unusedVariables false
set_option linter.unusedSimpArgs false
/-- The first j bytes as a number, the highest first, as the document has it. -/
def hval (seg : List Int) (j : Nat) : Int := (seg.take j).foldl (fun u v => IntKind.u64.wrap (IntKind.u64.wrap (u * 256) + IntKind.u64.wrap v)) 0
theorem hval_succ (seg : List Int) (j : Nat) (v : Int) (h : seg[j]? = some v) : hval seg (j + 1) = IntKind.u64.wrap (IntKind.u64.wrap (hval seg j * 256) + IntKind.u64.wrap v) := by
  unfold hval
  rw [List.take_add_one, h, List.foldl_append]
  rfl
theorem add_step {u v : Int} (h0 : 0 ≤ u) (h1 : u < 72057594037927936) (h2 : 0 ≤ v) (h3 : v < 256) : IntKind.u64.wrap (IntKind.u64.wrap (u * 256) + IntKind.u64.wrap v) = u * 256 + v := by
  rw [IntKind.wrap_u64, IntKind.wrap_u64, IntKind.wrap_u64]
  omega
theorem hval_word {seg : List Int} (hl : seg.length = 8) (hb : Bytes seg) : hval seg 8 = word seg 8 := by
  match seg, hl, hb with
  | [a, b, c, d, e, f, g, h], _, hb =>
    have ha := hb a (by simp)
    have hb' := hb b (by simp)
    have hc := hb c (by simp)
    have hd := hb d (by simp)
    have he := hb e (by simp)
    have hf := hb f (by simp)
    have hg := hb g (by simp)
    have hh := hb h (by simp)
    rw [word8 a b c d e f g h ha hb' hc hd he hf hg hh]
    unfold hval
    rw [List.take_of_length_le (by simp)]
    simp only [List.foldl_cons, List.foldl_nil]
    rw [add_step (u := 0) (by omega) (by omega) ha.1 ha.2, Int.zero_mul, Int.zero_add]
    rw [add_step (u := a) (by omega) (by omega) hb'.1 hb'.2]
    rw [add_step (v := c) (by omega) (by omega) hc.1 hc.2]
    rw [add_step (v := d) (by omega) (by omega) hd.1 hd.2]
    rw [add_step (v := e) (by omega) (by omega) he.1 he.2]
    rw [add_step (v := f) (by omega) (by omega) hf.1 hf.2]
    rw [add_step (v := g) (by omega) (by omega) hg.1 hg.2]
    rw [add_step (v := h) (by omega) (by omega) hh.1 hh.2]
/-- A sector's page; is it one? -/
def rdecodeOf (b : List Int) : List Int × Bool :=
  if b.length ≠ 512 then (none61, false)
  else if b = List.replicate 512 0 then (none61, true)
  else if (unboxOf b).2 ≠ none then (none61, false)
  else if (rtakeOf (unboxOf b).1).2 = 0 ∨ ((unboxOf b).1.length : Int) ≠ (rtakeOf (unboxOf b).1).2 + 480 then (none61, false)
  else ((rtakeOf (unboxOf b).1).1 :: cellsOf ((unboxOf b).1.drop (rtakeOf (unboxOf b).1).2.toNat), true)
theorem unbox_bytes {b : List Int} (hb : Bytes b) : Bytes (unboxOf b).1 := by
  unfold unboxOf
  repeat' split
  all_goals first | exact Bytes.nil | exact (hb.take _).drop _
theorem unbox_back {b : List Int} (h : (unboxOf b).2 = none) : boxOf b.length (unboxOf b).1 = (b, none) := by
  revert h
  unfold unboxOf
  split
  · intro h; cases h
  split
  · intro h; cases h
  split
  · rename_i hh
    intro _
    exact hh
  · intro h; cases h
/-- Where the document comes to the page, its sector is the one that was read. -/
theorem rdecode_back {b : List Int} (hb : Bytes b) (hl : b.length = 512) (hu : (unboxOf b).2 = none) (h1 : (rtakeOf (unboxOf b).1).2 ≠ 0) (h2 : ((unboxOf b).1.length : Int) = (rtakeOf (unboxOf b).1).2 + 480) :
    ∃ n r, I64 n ∧ Bytes r ∧ r.length = 480 ∧ (unboxOf b).1 = num n ++ r ∧ rtakeOf (unboxOf b).1 = (n, ((num n).length : Int)) ∧ takeOf (unboxOf b).1 = (n, ((num n).length : Int)) ∧ (unboxOf b).1.drop (num n).length = r ∧ encodeOf n (cellsOf r) = b := by
  have hub := unbox_bytes hb
  have hbk := unbox_back hu
  rw [hl] at hbk
  generalize (unboxOf b).1 = inn at *
  have hr := rtake_eq hub
  by_cases h : (takeOf inn).2 = 0
  · rw [if_pos h] at hr
    rw [hr] at h1
    exact absurd rfl h1
  · rw [if_neg h] at hr
    obtain ⟨n, r, hn, hx, ht⟩ := take_inv hub h
    have hp : 0 < (num n).length := enc_pos _
    rw [hr, ht] at h2
    have hlr : inn.length = (num n).length + r.length := by rw [hx, List.length_append]
    simp only at h2
    have hr480 : r.length = 480 := by omega
    have hrb : Bytes r := by rw [hx] at hub; exact hub.right
    refine ⟨n, r, hn, hrb, hr480, hx, hr.trans ht, ht, by rw [hx, List.drop_left], ?_⟩
    unfold encodeOf
    rw [eights_cells hr480 hrb, ← hx]
    have : boxOf 512 inn = (b, none) := hbk
    rw [this]
theorem rdecode_eq {b : List Int} (hb : Bytes b) : rdecodeOf b = if (decodeOf b).2 = none then ((decodeOf b).1, true) else (none61, false) := by
  unfold rdecodeOf decodeOf
  by_cases h1 : b.length ≠ 512
  · rw [if_pos h1, if_pos h1, if_neg (by simp)]
  rw [if_neg h1, if_neg h1]
  by_cases h2 : b = List.replicate 512 0
  · rw [if_pos h2, if_pos h2, if_pos rfl]
  rw [if_neg h2, if_neg h2]
  by_cases h3 : (unboxOf b).2 ≠ none
  · rw [if_pos h3, if_pos h3, if_neg (by simp)]
  rw [if_neg h3, if_neg h3]
  have hr := rtake_eq (unbox_bytes hb)
  by_cases h4 : (takeOf (unboxOf b).1).2 = 0
  · rw [if_pos h4] at hr
    rw [if_pos h4, hr, if_pos (.inl rfl), if_neg (by simp)]
  rw [if_neg h4] at hr
  rw [if_neg h4, hr]
  obtain ⟨n, r, hn, hx, ht⟩ := take_inv (unbox_bytes hb) h4
  have hp : 0 < (num n).length := enc_pos _
  have hlr : (unboxOf b).1.length = (num n).length + r.length := by rw [hx, List.length_append]
  have hd : ((unboxOf b).1.drop (takeOf (unboxOf b).1).2.toNat).length = r.length := by
    rw [ht]
    simp only [Int.toNat_natCast]
    rw [hx, List.drop_left]
  by_cases h5 : r.length = 480
  · rw [if_neg (c := ((unboxOf b).1.drop (takeOf (unboxOf b).1).2.toNat).length ≠ 480) (by rw [hd]; omega), if_pos rfl, if_neg (by rw [ht]; simp only; omega)]
  · rw [if_pos (c := ((unboxOf b).1.drop (takeOf (unboxOf b).1).2.toNat).length ≠ 480) (by rw [hd]; exact h5), if_pos (show (takeOf (unboxOf b).1).2 = 0 ∨ ((unboxOf b).1.length : Int) ≠ (takeOf (unboxOf b).1).2 + 480 from .inr (by rw [ht]; simp only; omega)), if_neg (by simp)]
end Go.Proofs.Ytbphmpncajfaiaa.M
/- Words: a region whose order is open, that writes a block of its own. -/
namespace Go.Proofs.Ytbphmpncajfaiaa.K
open Go.RowKit Go.ChangeShapes
variable {P : Program} {ops : Array Oper} {Q : Exit → Act → World → Prop}
theorem fillN_in (a : Act) (N : Nat → Tmp) (vs : Nat → Value) : ∀ k, (∀ i j, i < k → j < k → N i = N j → i = j) → ∀ i, i < k → N i < a.tmps.size → (fillN a N vs k).tmps[N i]? = some (vs i)
  | 0, _, i, hi, _ => by omega
  | k + 1, hinj, i, hi, hz => by
    show ((fillN a N vs k).tmps.setIfInBounds (N k) (vs k))[N i]? = _
    by_cases h : i = k
    · subst h
      rw [Array.getElem?_setIfInBounds_self_of_lt (by rw [fillN_size]; exact hz)]
    · rw [Array.getElem?_setIfInBounds_ne (fun e => h (hinj i k hi (by omega) e.symm))]
      exact fillN_in a N vs k (fun x y hx hy => hinj x y (by omega) (by omega)) i (by omega) hz
theorem region_rel {id n : Nat} {a0 : Act} {w0 : World} (hm : P.follows .mixedOrders = true) (hn : ops.size = n) (Rel : World → World → Prop) (rb : ∀ w w', Below w.heap.size w w' → Rel w w') (rt : ∀ w w' w'', Rel w w' → Rel w' w'' → Rel w w'') (N : Nat → Tmp) (hN : ∀ i o, ops[i]? = some o → ∀ (a : Act) v, a.tmps.size = a0.tmps.size → a.put o.dst v = a.put (some (N i)) v) (hinj : ∀ i j, i < n → j < n → N i = N j → i = j)
    (hdag : ∀ i o, ops[i]? = some o → ∀ e ∈ o.after, Region.binds .any e = true → e.on < i)
    (men : Nat → List Nat) (hmen : ∀ i o, ops[i]? = some o → ∀ m ∈ men i, m < n ∧ (m = i ∨ ∃ e ∈ o.after, Region.binds .any e = true ∧ e.on = m)) (S : Nat → Array Value → World → Prop) (hS : ∀ i T T' w w', S i T w → (∀ m ∈ men i, T'[N m]? = T[N m]?) → Rel w w' → S i T' w')
    (step : ∀ i o a w, ops[i]? = some o → a.defers = a0.defers → a.tmps.size = a0.tmps.size → (∀ t, (∀ j, j < n → N j ≠ t) → a.tmps[t]? = a0.tmps[t]?) → Rel w0 w →
      (∀ e ∈ o.after, Region.binds .any e = true → S e.on a.tmps w) →
      if Region.wanted o (yielded ops a.tmps) = true then o.wp P a w (fun a' w' => ∃ v, a' = a.put o.dst v ∧ S i (a.put o.dst v).tmps w' ∧ Rel w w') Q else S i (a.put o.dst undef).tmps w)
    (hend : ∀ (vs : Nat → Value) (w : World), Rel w0 w → (∀ i, i < n → S i (fillN a0 N vs n).tmps w) → (∀ i, i < n → N i < a0.tmps.size → (fillN a0 N vs n).tmps[N i]? = some (vs i)) → Q .normal (fillN a0 N vs n) w) : (Code.region id ops true).wp P Q a0 w0 := by
  refine wp_region_any hm ?_
  have key : ∀ (fuel : Nat) (listed : Array Bool) (a : Act) (w : World), listed.size = n → unlisted listed ≤ fuel → a.defers = a0.defers → a.tmps.size = a0.tmps.size → (∀ t, (∀ j, j < n → N j ≠ t) → a.tmps[t]? = a0.tmps[t]?) → Rel w0 w →
      (∀ i, i < n → listed.getD i true = true → S i a.tmps w ∧ ∀ m ∈ men i, m < n ∧ listed.getD m true = true) → wpAny P .any ops Q fuel listed a w := by
    have fin : ∀ (listed : Array Bool) (a : Act) (w : World), a.defers = a0.defers → a.tmps.size = a0.tmps.size → (∀ t, (∀ j, j < n → N j ≠ t) → a.tmps[t]? = a0.tmps[t]?) → Rel w0 w →
        (∀ i, i < n → S i a.tmps w) → Q .normal a w := by
      intro listed a w hd hs hf hb hall
      have he : a = fillN a0 N (fun i => a.tmps.getD (N i) undef) n := by
        have ht : a.tmps = (fillN a0 N (fun i => a.tmps.getD (N i) undef) n).tmps := by
          apply Array.ext_getElem?
          intro t
          by_cases hx : ∃ i, i < n ∧ N i = t
          · obtain ⟨i, hi, rfl⟩ := hx
            by_cases hlt : N i < a.tmps.size
            · rw [fillN_in a0 N _ n hinj i hi (by rw [← hs]; exact hlt)]
              have hv : a.tmps[N i]? = some (a.tmps[N i]'hlt) := Array.getElem?_eq_getElem hlt
              rw [hv, Array.getD_eq_getD_getElem?, hv]
              rfl
            · rw [Array.getElem?_eq_none (Nat.le_of_not_lt hlt), Array.getElem?_eq_none (by rw [fillN_size, ← hs]; exact Nat.le_of_not_lt hlt)]
          · rw [fillN_other a0 N _ t n (fun i hi e => hx ⟨i, hi, e⟩)]
            exact hf t (fun j hj e => hx ⟨j, hj, e⟩)
        have hdd : a.defers = (fillN a0 N (fun i => a.tmps.getD (N i) undef) n).defers := by rw [fillN_defers]; exact hd
        cases a
        simp only at ht hdd
        generalize fillN a0 N _ n = b at ht hdd ⊢
        cases b
        simp only at ht hdd
        rw [← ht, ← hdd]
      rw [he]
      refine hend _ w hb (fun i hi => ?_) (fun i hi hz => fillN_in a0 N _ n hinj i hi hz)
      have := hall i hi
      rw [he] at this
      exact this
    have all_of : ∀ (listed : Array Bool), listed.size = n → Region.ready .any ops listed = [] → ∀ i, i < n → listed.getD i true = true := by
      intro listed hl hr i
      induction i using Nat.strongRecOn with
      | ind i ih =>
        intro hi
        cases hv : listed.getD i true with
        | true => rfl
        | false =>
          exfalso
          have hmem : i ∈ Region.ready .any ops listed := by
            unfold Region.ready
            refine List.mem_filter.2 ⟨List.mem_range.2 (by omega), ?_⟩
            have ho : ops[i]? = some ops[i] := Array.getElem?_eq_getElem (by omega)
            rw [hv, ho]
            simp only [Bool.not_false, Bool.true_and, Option.map_some, Option.getD_some]
            rw [Array.all_eq_true']
            intro e he
            cases hb : Region.binds .any e with
            | false => rfl
            | true =>
              have hlt := hdag i _ ho e he hb
              have h3 := ih e.on hlt (by omega)
              rw [Array.getD_eq_getD_getElem?, Array.getElem?_eq_getElem (show e.on < listed.size by omega)] at h3
              simp only [Option.getD_some] at h3
              rw [Array.getD_eq_getD_getElem?, Array.getElem?_eq_getElem (show e.on < listed.size by omega)]
              simp [h3]
          rw [hr] at hmem
          cases hmem
    intro fuel
    induction fuel with
    | zero =>
      intro listed a w hl hu hd hs hf hb hP
      have hall : ∀ i, i < n → listed.getD i true = true := fun i hi => by
        rw [Array.getD_eq_getD_getElem?, Array.getElem?_eq_getElem (by omega)]
        exact unlisted_zero (by omega) i (by omega)
      refine ⟨?_, fin listed a w hd hs hf hb (fun i hi => (hP i hi (hall i hi)).1)⟩
      refine List.eq_nil_iff_forall_not_mem.2 (fun i hi => ?_)
      unfold Region.ready at hi
      obtain ⟨h1, h2⟩ := List.mem_filter.1 hi
      rw [hall i (by have := List.mem_range.1 h1; omega)] at h2
      simp at h2
    | succ fuel ih =>
      intro listed a w hl hu hd hs hf hb hP
      refine ⟨fun hr => fin listed a w hd hs hf hb (fun i hi => (hP i hi (all_of listed hl hr i hi)).1), fun i hi => ?_⟩
      unfold Region.ready at hi
      obtain ⟨h1, h2⟩ := List.mem_filter.1 hi
      have hin : i < n := by have := List.mem_range.1 h1; omega
      have ho : ops[i]? = some ops[i] := Array.getElem?_eq_getElem (by omega)
      rw [ho] at h2
      simp only [Option.map_some, Option.getD_some, Bool.and_eq_true, Bool.not_eq_true'] at h2
      have hdl : ∀ e ∈ (ops[i]).after, Region.binds .any e = true → e.on < i ∧ listed.getD e.on true = true := by
        intro e he hbd
        have h3 := Array.all_eq_true'.1 h2.2 e he
        rw [hbd] at h3
        simp only [Bool.not_true, Bool.false_or] at h3
        have hlt := hdag i _ ho e he hbd
        refine ⟨hlt, ?_⟩
        rw [Array.getD_eq_getD_getElem?, Array.getElem?_eq_getElem (show e.on < listed.size by omega)] at h3 ⊢
        simpa using h3
      have hdep : ∀ e ∈ (ops[i]).after, Region.binds .any e = true → S e.on a.tmps w := by
        intro e he hbd
        have h4 := hdl e he hbd
        exact (hP e.on (by omega) h4.2).1
      have hst := step i _ a w ho hd hs hf hb hdep
      have hlf : listed[i]'(by omega) = false := by
        have h3 := h2.1
        rw [Array.getD_eq_getD_getElem?, Array.getElem?_eq_getElem (by omega)] at h3
        simpa using h3
      have hun := unlisted_set (i := i) (by omega) hlf
      have go : ∀ (v : Value) (w' : World), S i (a.put (ops[i]).dst v).tmps w' → Rel w w' → wpAny P .any ops Q fuel (listed.setIfInBounds i true) (a.put (ops[i]).dst v) w' := by
        intro v w' hv hbw
        rw [hN i _ ho a v hs]
        refine ih _ _ _ (by rw [Array.size_setIfInBounds]; exact hl) (by omega) hd (by show (a.tmps.setIfInBounds (N i) v).size = _; rw [Array.size_setIfInBounds]; exact hs) ?_ ?_ ?_
        · intro t ht
          show (a.tmps.setIfInBounds (N i) v)[t]? = _
          rw [Array.getElem?_setIfInBounds_ne (ht i hin)]
          exact hf t ht
        · exact rt _ _ _ hb hbw
        · have up : ∀ m, m < n → (m = i ∨ listed.getD m true = true) → (listed.setIfInBounds i true).getD m true = true := by
            intro m hm h
            by_cases hmi : m = i
            · subst hmi
              rw [Array.getD_eq_getD_getElem?, Array.getElem?_setIfInBounds_self_of_lt (by omega)]
              rfl
            · rw [Array.getD_eq_getD_getElem?, Array.getElem?_setIfInBounds_ne (fun e => hmi e.symm), ← Array.getD_eq_getD_getElem?]
              exact h.resolve_left hmi
          intro j hj hlj
          by_cases hji : j = i
          · subst hji
            rw [hN j _ ho a v hs] at hv
            refine ⟨hv, fun m hm => ?_⟩
            obtain ⟨h1, h2⟩ := hmen j _ ho m hm
            refine ⟨h1, up m h1 ?_⟩
            rcases h2 with h2 | ⟨e, he, hbd, h2⟩
            · exact .inl h2
            · subst h2
              exact .inr (hdl e he hbd).2
          · have hlj' : listed.getD j true = true := by
              rw [Array.getD_eq_getD_getElem?, Array.getElem?_setIfInBounds_ne (fun e => hji e.symm)] at hlj
              rw [Array.getD_eq_getD_getElem?]
              exact hlj
            obtain ⟨h3, h4⟩ := hP j hj hlj'
            refine ⟨hS j _ _ w w' h3 (fun m hm => ?_) hbw, fun m hm => ⟨(h4 m hm).1, up m (h4 m hm).1 (.inr (h4 m hm).2)⟩⟩
            show (a.tmps.setIfInBounds (N i) v)[N m]? = _
            refine Array.getElem?_setIfInBounds_ne (fun e => ?_)
            have hmi := hinj i m hin (h4 m hm).1 e
            subst hmi
            have h5 := (h4 i hm).2
            rw [Array.getD_eq_getD_getElem?, Array.getElem?_eq_getElem (show i < listed.size by omega)] at h5
            simp [hlf] at h5
      unfold wpOp
      rw [ho]
      simp only
      by_cases hw : Region.wanted ops[i] (yielded ops a.tmps) = true
      · rw [if_pos hw] at hst ⊢
        refine .inl (Oper.wp_mono (fun a' w' hh => ?_) hst)
        obtain ⟨v, rfl, hv, hbw⟩ := hh
        exact go v w' hv hbw
      · rw [if_neg hw] at hst ⊢
        exact go undef w hst (rb _ _ (Below.refl _ _))
  refine key ops.size _ a0 _ (by rw [Array.size_replicate]; exact hn) ?_ rfl rfl (fun _ _ => rfl) (rb _ _ ⟨rfl, rfl, rfl, Nat.le_refl _, fun _ _ => rfl⟩) ?_
  · unfold unlisted
    exact Nat.le_trans (List.length_filter_le _ _) (by simp)
  · intro i hi hh
    rw [Array.getD_eq_getD_getElem?, Array.getElem?_eq_getElem (by rw [Array.size_replicate]; omega)] at hh
    simp at hh
end Go.Proofs.Ytbphmpncajfaiaa.K
/- Words: a region that stores a page at its end. -/
namespace Go.Proofs.Ytbphmpncajfaiaa.K
open Go.RowKit Go.ChangeShapes Go.Proofs.Ytbphmpncajfaiaa.M Go.Proofs.Ytbphmpncajfaiaa.Py Go.Proofs.YtbphmpncajfaiaaW.PrintWords Go.Proofs.YtbphmpncajfaiaaW.PrintLast Go.Proofs.YtbphmpncajfaiaaW.PrintMore
set_option linter.unusedVariables false
set_option linter.unusedSimpArgs false
/-- All stays but block g, which stays or becomes the page pp. -/
def RelT (g : Nat) (pp : List Int) (w w' : World) : Prop :=
  (∀ B, B ≤ g → B ≤ w.heap.size → Below B w w') ∧ w.heap.size ≤ w'.heap.size ∧ (∀ k, k < w.heap.size → k ≠ g → w'.heap[k]? = w.heap[k]?) ∧ (∀ l, Page w g l → Page w' g l ∨ Page w' g pp)
theorem RelT.of {g : Nat} {pp : List Int} {w w' : World} (h : Below w.heap.size w w') : RelT g pp w w' :=
  ⟨fun B _ h2 => Below.mono h h2, h.size, fun k hk _ => h.block k hk, fun l hp => .inl (hp.below h)⟩
theorem RelT.trans {g : Nat} {pp : List Int} {w w' w'' : World} (h : RelT g pp w w') (k : RelT g pp w' w'') : RelT g pp w w'' := by
  refine ⟨fun B h1 h2 => (h.1 B h1 h2).trans (k.1 B h1 (Nat.le_trans h2 h.2.1)), Nat.le_trans h.2.1 k.2.1, fun i hi hne => (k.2.2.1 i (Nat.lt_of_lt_of_le hi h.2.1) hne).trans (h.2.2.1 i hi hne), fun l hp => ?_⟩
  rcases h.2.2.2 l hp with h1 | h1
  · exact k.2.2.2 l h1
  · rcases k.2.2.2 pp h1 with h2 | h2
    · exact .inr h2
    · exact .inr h2
theorem RelT.store {g : Nat} {pp l0 : List Int} {w : World} (hp : Page w g l0) (hl : pp.length = 61) : RelT g pp w (w.setRow g (pg pp)) ∧ Page (w.setRow g (pg pp)) g pp := by
  obtain ⟨h1, h2⟩ := setRow_page hp hl
  exact ⟨⟨fun B hB hs => Below.grown (Below.refl _ _) h2 hs (fun k e => by injection e with e; omega), h2.size, fun k hk hne => h2.block k hk (fun e => by injection e with e; exact hne e), fun l _ => .inr h1⟩, h1⟩
theorem RelT.page {g g' : Nat} {pp l : List Int} {w w' : World} (h : RelT g pp w w') (hp : Page w g' l) (hne : g' ≠ g) : Page w' g' l := ⟨(h.2.2.1 g' hp.lt hne).trans hp.1, hp.2⟩
theorem RelT.there {g : Nat} {pp l : List Int} {w w' : World} (h : RelT g pp w w') (hp : Page w g l) : ∃ l', Page w' g l' := by
  rcases h.2.2.2 l hp with h1 | h1
  · exact ⟨_, h1⟩
  · exact ⟨_, h1⟩
theorem RelT.stored {g : Nat} {pp : List Int} {w w' : World} (h : RelT g pp w w') (hp : Page w g pp) : Page w' g pp := by
  rcases h.2.2.2 pp hp with h1 | h1
  · exact h1
  · exact h1
theorem RelT.row {g base : Nat} {pp l xs : List Int} {w w' : World} {v : Value} {ok : Nat → Prop} (h : RelT g pp w w') (hp : Page w g l) (hr : (Kd.int .u8).R 5 w base ok v xs) : (Kd.int .u8).R 5 w' base ok v xs :=
  Kd.R_mono (Kd.R_step (Kd.R_types hr hp.1 (by decide)) (fun k hk hlt => h.2.2.1 k hlt hk.2)) (fun _ hk => hk.1)
section
variable {P : Program} {ops : Array Oper} {o : Oper} {a : Act} {W : World} {Q : Exit → Act → World → Prop} {S : Array Value → World → Prop} {Rel : World → World → Prop}
theorem rel_value {v : Value} {w' : World} (hw : Region.wanted o (yielded ops a.tmps) = true) (hrun : (execOp a.eval o).run P W = .ok (.value v) w') (hS : S (a.put o.dst v).tmps w') (hb : Rel W w') :
    if Region.wanted o (yielded ops a.tmps) = true then o.wp P a W (fun a' w' => ∃ v, a' = a.put o.dst v ∧ S (a.put o.dst v).tmps w' ∧ Rel W w') Q else S (a.put o.dst undef).tmps W := by
  rw [if_pos hw]
  unfold Oper.wp
  rw [hrun]
  exact ⟨v, rfl, hS, hb⟩
theorem rel_call {f : FuncId} {args : Array Value} (hw : Region.wanted o (yielded ops a.tmps) = true) (hrun : (execOp a.eval o).run P W = .ok (.enter f args) W) (h : Calls P f args W fun e w' => ∃ v, e = .returned v ∧ S (a.put o.dst v).tmps w' ∧ Rel W w') :
    if Region.wanted o (yielded ops a.tmps) = true then o.wp P a W (fun a' w' => ∃ v, a' = a.put o.dst v ∧ S (a.put o.dst v).tmps w' ∧ Rel W w') Q else S (a.put o.dst undef).tmps W := by
  rw [if_pos hw]
  unfold Oper.wp
  rw [hrun, Oper.upon_enter]
  refine h.mono fun e w'' hh => ?_
  obtain ⟨v, rfl, hs, hb⟩ := hh
  exact ⟨v, rfl, hs, hb⟩
theorem rel_store (hw : Region.wanted o (yielded ops a.tmps) = true) (x y : Operand) (ho : o.op = .store 65 x y) (g : Nat) (l0 pp : List Int) (hx : a.eval x = .pointer (some ⟨g, 0, none⟩)) (hy : a.eval y = .agg (pg pp)) (hp : Page W g l0) (hl : pp.length = 61)
    (hS : S (a.put o.dst undef).tmps (W.setRow g (pg pp))) (hb : Rel W (W.setRow g (pg pp))) :
    if Region.wanted o (yielded ops a.tmps) = true then o.wp Try.prog a W (fun a' w' => ∃ v, a' = a.put o.dst v ∧ S (a.put o.dst v).tmps w' ∧ Rel W w') Q else S (a.put o.dst undef).tmps W := by
  rw [if_pos hw]
  exact wp_store_row 65 x y ho g (pg pp) hx hy 65 (pg l0) hp.1 (by rw [pg_size, hl]; exact size65) (by rw [pg_size, pg_size, hl, hp.2]) (pg_one pp) ⟨undef, rfl, hS, hb⟩
end
end Go.Proofs.Ytbphmpncajfaiaa.K
