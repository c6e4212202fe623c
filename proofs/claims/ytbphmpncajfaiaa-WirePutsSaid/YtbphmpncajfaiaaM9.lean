/- Joined by merge.py of: YtbphmpncajfaiaaM6, YtbphmpncajfaiaaM7, YtbphmpncajfaiaaM8 -/
import Derived.Test.YtbphmpncajfaiaaM3
import Derived.Test.YtbphmpncajfaiaaPyx4
import Derived.Test.YtbphmpncajfaiaaPyx14
import Derived.Test.YtbphmpncajfaiaaPyx19
import Derived.Test.YtbphmpncajfaiaaPyx31
import Derived.Test.YtbphmpncajfaiaaPyx33
import Derived.Test.YtbphmpncajfaiaaPyx34
import Derived.Test.YtbphmpncajfaiaaPyx17
import Derived.Test.YtbphmpncajfaiaaPyx16
/- Plain: numbers' bytes, written and taken. -/
namespace Go.Proofs.Ytbphmpncajfaiaa.M
open Go.RowKit Go.Proofs.Ytbphmpncajfaiaa.Py Go.Proofs.YtbphmpncajfaiaaW.PrintWords
set_option linter.unusedVariables false
set_option linter.unusedSimpArgs false
def I64 (x : Int) : Prop := -9223372036854775808 ≤ x ∧ x ≤ 9223372036854775807
/-- Seven bits a byte, the lowest first. -/
def enc (u : Nat) : List Int := if u < 128 then [(u : Int)] else ((u % 128 + 128 : Nat) : Int) :: enc (u / 128)
termination_by u
decreasing_by omega
theorem enc_small {u : Nat} (h : u < 128) : enc u = [(u : Int)] := by rw [enc, if_pos h]
theorem enc_big {u : Nat} (h : 128 ≤ u) : enc u = ((u % 128 + 128 : Nat) : Int) :: enc (u / 128) := by rw [enc, if_neg (by omega)]
def zig (n : Int) : Nat := if 0 ≤ n then (2 * n).toNat else (-2 * n - 1).toNat
def zag (u : Nat) : Int := if u % 2 = 0 then ((u / 2 : Nat) : Int) else -((u / 2 : Nat) : Int) - 1
theorem zag_zig (n : Int) : zag (zig n) = n := by
  unfold zag zig
  split <;> split <;> omega
theorem zig_zag (u : Nat) : zig (zag u) = u := by
  unfold zag zig
  split <;> split <;> omega
theorem zig_lt {n : Int} (h : I64 n) : zig n < 18446744073709551616 := by
  unfold I64 at h
  unfold zig
  split <;> omega
theorem zag_i64 {u : Nat} (h : u < 18446744073709551616) : I64 (zag u) := by
  unfold I64 zag
  split <;> omega
def num (n : Int) : List Int := enc (zig n)
def nums (l : List Int) : List Int := (l.map num).flatten
theorem enc_bytes : ∀ (n : Nat) (u : Nat), u ≤ n → Bytes (enc u) := by
  intro n
  induction n with
  | zero =>
    intro u h
    rw [enc_small (by omega)]
    intro x hx
    rw [List.mem_singleton] at hx
    omega
  | succ n ih =>
    intro u h
    by_cases h1 : u < 128
    · rw [enc_small h1]
      intro x hx
      rw [List.mem_singleton] at hx
      omega
    · rw [enc_big (by omega)]
      intro x hx
      rcases List.mem_cons.1 hx with h2 | h2
      · omega
      · exact ih (u / 128) (by omega) x h2
theorem num_bytes (n : Int) : Bytes (num n) := enc_bytes _ _ (Nat.le_refl _)
theorem enc_pos (u : Nat) : 0 < (enc u).length := by
  by_cases h : u < 128
  · rw [enc_small h]; simp
  · rw [enc_big (by omega)]; simp
theorem enc_le : ∀ (k u : Nat), u < 128 ^ (k + 1) → (enc u).length ≤ k + 1
  | 0, u, h => by rw [enc_small (by simpa using h)]; simp
  | k + 1, u, h => by
    by_cases h1 : u < 128
    · rw [enc_small h1]; simp
    · rw [enc_big (by omega), List.length_cons]
      have := enc_le k (u / 128) (by rw [Nat.pow_succ] at h; omega)
      omega
theorem num_le {n : Int} (h : I64 n) : (num n).length ≤ 10 := enc_le 9 _ (Nat.lt_of_lt_of_le (zig_lt h) (by decide))
theorem num_one (n : Int) : (num n).length = 1 ↔ -64 ≤ n ∧ n < 64 := by
  unfold num
  by_cases h : zig n < 128
  · rw [enc_small h]
    unfold zig at h
    split at h <;> simp <;> omega
  · rw [enc_big (by omega)]
    have := enc_pos (zig n / 128)
    unfold zig at h
    rw [List.length_cons]
    split at h <;> omega
theorem nums_bytes (l : List Int) : Bytes (nums l) := fun x hx => by
  obtain ⟨m, hm, hx⟩ := List.mem_flatten.1 hx
  obtain ⟨n, _, rfl⟩ := List.mem_map.1 hm
  exact num_bytes n x hx
theorem nums_len {l : List Int} (h : ∀ x ∈ l, I64 x) : (nums l).length ≤ 10 * l.length := by
  induction l with
  | nil => simp [nums]
  | cons n l ih =>
    have h1 := num_le (h n List.mem_cons_self)
    have h2 := ih (fun x hx => h x (List.mem_cons_of_mem _ hx))
    unfold nums at h2 ⊢
    rw [List.map_cons, List.flatten_cons, List.length_append, List.length_cons]
    omega

/-! #### bits -/
theorem or_u8_128 {x : Int} (h0 : 0 ≤ x) (h1 : x < 256) : bits .or .u8 x 128 = x % 128 + 128 := by
  obtain ⟨a, rfl⟩ := Int.eq_ofNat_of_zero_le h0
  rw [show (128 : Int) = ((128 : Nat) : Int) from rfl, (bits_nat .u8 8 (by decide) wraps_u8 a 128 (by omega) (by decide)).2]
  have h : ∀ a : Fin 256, (a.val ||| 128) = a.val % 128 + 128 := by decide +kernel
  have := h ⟨a, by omega⟩
  simp only at this
  rw [this]
  omega
theorem xor_ones_u64 {a : Int} (h0 : 0 ≤ a) (h1 : a < 18446744073709551616) : bits .xor .u64 a 18446744073709551615 = 18446744073709551615 - a := by
  obtain ⟨x, rfl⟩ := Int.eq_ofNat_of_zero_le h0
  have e : BitVec.ofInt 64 18446744073709551615 = BitVec.allOnes 64 := by decide
  have hx : (BitVec.ofInt 64 (x : Int)).toNat = x := by rw [BitVec.ofInt_natCast, BitVec.toNat_ofNat]; exact Nat.mod_eq_of_lt (by omega)
  show IntKind.u64.wrap ((BitVec.ofInt 64 (x : Int) ^^^ BitVec.ofInt 64 18446744073709551615).toNat : Int) = _
  rw [e, BitVec.xor_allOnes, BitVec.toNat_not, hx, IntKind.wrap_u64]
  omega
theorem xor_zero_u64 {a : Int} (h0 : 0 ≤ a) (h1 : a < 18446744073709551616) : bits .xor .u64 a 0 = a := by
  obtain ⟨x, rfl⟩ := Int.eq_ofNat_of_zero_le h0
  rw [show (0 : Int) = ((0 : Nat) : Int) from rfl, bits_xor_u64_nat x 0 (by omega) (by decide), Nat.xor_zero]
theorem xor_zero_i64 {a : Int} (h0 : 0 ≤ a) (h1 : a < 9223372036854775808) : bits .xor .i64 a 0 = a := by
  obtain ⟨x, rfl⟩ := Int.eq_ofNat_of_zero_le h0
  have hx : (BitVec.ofInt 64 (x : Int)).toNat = x := by rw [BitVec.ofInt_natCast, BitVec.toNat_ofNat]; exact Nat.mod_eq_of_lt (by omega)
  show IntKind.i64.wrap ((BitVec.ofInt 64 (x : Int) ^^^ BitVec.ofInt 64 0).toNat : Int) = _
  rw [show BitVec.ofInt 64 0 = 0#64 by decide, BitVec.xor_zero, hx, IntKind.wrap_i64]
  omega
theorem xor_ones_i64 {a : Int} (h0 : 0 ≤ a) (h1 : a < 9223372036854775808) : bits .xor .i64 a (-1) = -a - 1 := by
  obtain ⟨x, rfl⟩ := Int.eq_ofNat_of_zero_le h0
  have e : BitVec.ofInt 64 (-1) = BitVec.allOnes 64 := by decide
  have hx : (BitVec.ofInt 64 (x : Int)).toNat = x := by rw [BitVec.ofInt_natCast, BitVec.toNat_ofNat]; exact Nat.mod_eq_of_lt (by omega)
  show IntKind.i64.wrap ((BitVec.ofInt 64 (x : Int) ^^^ BitVec.ofInt 64 (-1)).toNat : Int) = _
  rw [e, BitVec.xor_allOnes, BitVec.toNat_not, hx, IntKind.wrap_i64]
  omega
theorem and_one_u64 (u : Nat) (h : u < 18446744073709551616) : bits .and .u64 (u : Int) 1 = ((u % 2 : Nat) : Int) := by
  have := bits_mask .u64 64 (by decide) (fun n h0 h1 => by rw [IntKind.wrap_u64]; omega) 1 (by decide) (u : Int) (by omega) (by omega)
  simpa using this
theorem zag_bits (u : Nat) (h : u < 18446744073709551616) : bits .xor .i64 (wrap64 ((u : Int) / 2)) (wrap64 (-(wrap64 (bits .and .u64 (u : Int) 1)))) = zag u := by
  rw [and_one_u64 u h]
  have e1 : wrap64 ((u : Int) / 2) = ((u / 2 : Nat) : Int) := by unfold wrap64; omega
  rw [e1]
  by_cases h2 : u % 2 = 0
  · rw [h2]
    have e2 : wrap64 (-(wrap64 ((0 : Nat) : Int))) = 0 := by unfold wrap64; omega
    rw [e2, xor_zero_i64 (by omega) (by omega)]
    unfold zag
    rw [if_pos h2]
  · have h3 : u % 2 = 1 := by omega
    rw [h3]
    have e2 : wrap64 (-(wrap64 ((1 : Nat) : Int))) = -1 := by unfold wrap64; omega
    rw [e2, xor_ones_i64 (by omega) (by omega)]
    unfold zag
    rw [if_neg h2]
theorem or_shift {v c i : Nat} (hv : v < 128 ^ i) (hi : i ≤ 9) (hc : c < 256) (h9 : i = 9 → c ≤ 1) :
    bits .or .u64 (v : Int) (shl .u64 (IntKind.u64.wrap (bits .and .u8 (c : Int) 127)) (wrap64 (7 * (i : Int)))) = ((v + c % 128 * 128 ^ i : Nat) : Int) ∧ v + c % 128 * 128 ^ i < 18446744073709551616 := by
  have e1 : bits .and .u8 (c : Int) 127 = ((c % 128 : Nat) : Int) := by
    have := bits_mask .u8 8 (by decide) wraps_u8 7 (by decide) (c : Int) (by omega) (by omega)
    simpa using this
  have hp : (2 : Nat) ^ (7 * i) = 128 ^ i := by rw [Nat.pow_mul]
  have hle : (128 : Nat) ^ i ≤ 128 ^ 9 := Nat.pow_le_pow_right (by decide) hi
  have hle8 : i ≠ 9 → (128 : Nat) ^ i ≤ 128 ^ 8 := fun h => Nat.pow_le_pow_right (by decide) (by omega)
  have hpos : 0 < (128 : Nat) ^ i := Nat.pow_pos (by decide)
  have e9 : (128 : Nat) ^ 9 = 9223372036854775808 := by decide
  have e8 : (128 : Nat) ^ 8 = 72057594037927936 := by decide
  have hb : c % 128 * 128 ^ i ≤ 9223372036854775808 := by
    by_cases h : i = 9
    · have := h9 h
      have h4 : c % 128 ≤ 1 := by omega
      calc c % 128 * 128 ^ i ≤ 1 * 128 ^ i := Nat.mul_le_mul_right _ h4
        _ ≤ _ := by omega
    · have h4 : c % 128 ≤ 127 := by omega
      calc c % 128 * 128 ^ i ≤ 127 * 128 ^ i := Nat.mul_le_mul_right _ h4
        _ ≤ _ := by have := hle8 h; omega
  have e2 : IntKind.u64.wrap ((c % 128 : Nat) : Int) = ((c % 128 : Nat) : Int) := by rw [IntKind.wrap_u64]; omega
  have e3 : wrap64 (7 * (i : Int)) = ((7 * i : Nat) : Int) := by unfold wrap64; omega
  rw [e1, e2, e3]
  have e4 : shl .u64 ((c % 128 : Nat) : Int) ((7 * i : Nat) : Int) = ((c % 128 * 128 ^ i : Nat) : Int) := by
    unfold shl
    rw [Int.toNat_natCast, show IntKind.u64.bits = 64 from rfl, Nat.min_eq_left (by omega), ← hp, IntKind.wrap_u64]
    have h5 : (((c % 128 : Nat) : Int) * 2 ^ (7 * i)) = ((c % 128 * 2 ^ (7 * i) : Nat) : Int) := by rw [Int.natCast_mul, Int.natCast_pow]; rfl
    rw [h5]
    rw [← hp] at hb
    omega
  rw [e4]
  have hsum : v + c % 128 * 128 ^ i < 18446744073709551616 := by omega
  refine ⟨?_, hsum⟩
  have hcm : bits .or .u64 (v : Int) ((c % 128 * 128 ^ i : Nat) : Int) = bits .or .u64 ((c % 128 * 128 ^ i : Nat) : Int) (v : Int) := by simp only [bits, BitVec.or_comm]
  have hpi : ((2 : Int) ^ (7 * i)) = ((128 ^ i : Nat) : Int) := by rw [← hp, Int.natCast_pow]; rfl
  rw [hcm, bits_join .u64 64 (by decide) (fun n h0 h1 => by rw [IntKind.wrap_u64]; omega) (7 * i) _ _ (by omega) (by rw [hpi, ← Int.natCast_emod, Nat.mul_mod_left]; rfl) (by omega) (by omega) (by rw [hpi]; omega) (by omega)]
  omega

/-! #### put -/
theorem turned_f {n : Int} (h : I64 n) : wire_turned.f n = some ((zig n : Nat) : Int) := by
  unfold I64 at h
  unfold wire_turned.f
  congr 1
  by_cases h0 : 0 ≤ n
  · have e1 : IntKind.u64.wrap (IntKind.u64.wrap n * 2) = 2 * n := by rw [IntKind.wrap_u64, IntKind.wrap_u64]; omega
    have e2 : IntKind.u64.wrap (n / 9223372036854775808) = 0 := by rw [IntKind.wrap_u64]; omega
    rw [e1, e2, xor_zero_u64 (by omega) (by omega)]
    unfold zig
    rw [if_pos h0]
    omega
  · have e1 : IntKind.u64.wrap (IntKind.u64.wrap n * 2) = 2 * n + 18446744073709551616 := by rw [IntKind.wrap_u64, IntKind.wrap_u64]; omega
    have e2 : IntKind.u64.wrap (n / 9223372036854775808) = 18446744073709551615 := by rw [IntKind.wrap_u64]; omega
    rw [e1, e2, xor_ones_u64 (by omega) (by omega)]
    unfold zig
    rw [if_neg h0]
    omega
theorem put_l1 (x8 : List Int) (x9 x10 : Int) : ∀ (n : Nat) (u : Nat), u ≤ n → u < 18446744073709551616 → ∀ (acc : List Int) (k : Nat), acc.length + (enc u).length ≤ 140737488355328 → wire_put.l1 ((enc u).length + k) acc (u : Int) x8 x9 x10 = wire_put.l0 k (acc ++ enc u) x8 x9 (wrap64 (x10 + 1)) := by
  intro n
  induction n with
  | zero =>
    intro u hu hlt acc k hl
    rw [enc_small (show u < 128 by omega)] at hl ⊢
    rw [show [(u : Int)].length + k = k + 1 by simp; omega]
    simp only [wire_put.l1]
    rw [if_neg (by omega), if_pos (by simp at hl; omega)]
    have e : (u : Int) % 256 = u := by omega
    rw [e]
  | succ n ih =>
    intro u hu hlt acc k hl
    by_cases h : u < 128
    · rw [enc_small h] at hl ⊢
      rw [show [(u : Int)].length + k = k + 1 by simp; omega]
      simp only [wire_put.l1]
      rw [if_neg (by omega), if_pos (by simp at hl; omega)]
      have e : (u : Int) % 256 = u := by omega
      rw [e]
    · rw [enc_big (by omega)] at hl ⊢
      rw [List.length_cons] at hl ⊢
      rw [show (enc (u / 128)).length + 1 + k = ((enc (u / 128)).length + k) + 1 by omega]
      simp only [wire_put.l1]
      rw [if_pos (by omega), if_pos (by omega), or_u8_128 (by omega) (by omega)]
      have e1 : (u : Int) % 256 % 128 + 128 = ((u % 128 + 128 : Nat) : Int) := by omega
      have e2 : (u : Int) / 128 = ((u / 128 : Nat) : Int) := by omega
      rw [e1, e2, ih (u / 128) (by omega) (by omega) _ k (by simp; omega), List.append_assoc]
      rfl
theorem put_l0 : ∀ (l m acc : List Int) (k : Nat), (∀ x ∈ l, I64 x) → acc.length + 10 * l.length ≤ 140737488355000 → (m ++ l).length ≤ 140737488355000 → 11 * l.length + 1 ≤ k → wire_put.l0 k acc (m ++ l) ((m ++ l).length : Int) (m.length : Int) = some (acc ++ nums l)
  | [], m, acc, k, hI, ha, hl, hk => by
    obtain ⟨k, rfl⟩ : ∃ j, k = j + 1 := ⟨k - 1, by omega⟩
    simp only [wire_put.l0]
    rw [if_neg (by simp)]
    simp [nums]
  | n :: l, m, acc, k, hI, ha, hl, hk => by
    have hn := hI n List.mem_cons_self
    have hle := num_le hn
    have hp := enc_pos (zig n)
    have hl' := hl
    rw [List.length_cons] at ha hk
    rw [List.length_append, List.length_cons] at hl'
    unfold num at hle
    obtain ⟨k, rfl⟩ : ∃ j, k = ((enc (zig n)).length + j) + 1 := ⟨k - 1 - (enc (zig n)).length, by omega⟩
    simp only [wire_put.l0]
    rw [if_pos (by simp; omega), if_pos (by omega), if_pos (by simp; omega), rd_cons, turned_f hn]
    simp only [Option.bind_some]
    rw [put_l1 _ _ _ _ (zig n) (Nat.le_refl _) (zig_lt hn) acc k (by omega), w1 (by omega) (by omega)]
    have := put_l0 l (m ++ [n]) (acc ++ enc (zig n)) k (fun x hx => hI x (List.mem_cons_of_mem _ hx)) (by rw [List.length_append]; omega) (by simp; omega) (by omega)
    simp only [List.append_assoc, List.cons_append, List.nil_append, List.length_append, List.length_cons, List.length_nil] at this ⊢
    have e : ((m.length + (0 + 1) : Nat) : Int) = (m.length : Int) + 1 := by omega
    rw [e] at this
    rw [this]
    simp [nums, num]
theorem put_comes {acc l : List Int} (hI : ∀ x ∈ l, I64 x) (ha : acc.length + 10 * l.length ≤ 140737488355000) (hl : l.length ≤ 140737488355000) : Comes (fun k => wire_Put.f k acc l) (acc ++ nums l) := by
  refine Comes.of (11 * l.length + 1) (fun k hk => ?_)
  show wire_Put.f k acc l = _
  unfold wire_Put.f
  rw [clone_f (by omega)]
  simp only [Option.bind_some]
  unfold wire_put.f
  have := put_l0 l [] acc k hI ha (by simpa using hl) hk
  simp only [List.nil_append, List.length_nil] at this
  rw [show ((0 : Nat) : Int) = 0 from rfl] at this
  rw [this]
  rfl
theorem putrow_comes {acc row : List Int} (ha : acc.length + 10 + row.length ≤ 140737488355000) : Comes (fun k => wire_PutRow.f k acc row) (acc ++ num (row.length : Int) ++ row) := by
  have hI : ∀ x ∈ [(row.length : Int)], I64 x := fun x hx => by
    rw [List.mem_singleton] at hx
    subst hx
    unfold I64
    omega
  have h := put_comes (acc := acc) (l := [(row.length : Int)]) hI (by simp; omega) (by simp)
  have hle := num_le (hI _ List.mem_cons_self)
  have e : nums [(row.length : Int)] = num (row.length : Int) := by simp [nums]
  rw [e] at h
  refine (Comes.bind (g := fun k t214 => (if t214.length + row.length < 140737488355328 then (some (t214 ++ row)) else (none))) h (q := acc ++ num (row.length : Int) ++ row) ?_).congr (fun k => rfl)
  refine Comes.congr (g := fun _ => some (acc ++ num (row.length : Int) ++ row)) Comes.now (fun k => ?_)
  rw [if_pos (by rw [List.length_append]; omega)]

/-! #### take -/
def tk (i v : Nat) : List Int → Int × Int
  | [] => (0, 0)
  | c :: r => if i = 9 ∧ c > 1 then (0, 0) else if c < 128 then (if c = 0 ∧ 0 < i then (0, 0) else (zag (v + c.toNat % 128 * 128 ^ i), (i : Int) + 1)) else tk (i + 1) (v + c.toNat % 128 * 128 ^ i) r
theorem take_l0 : ∀ (l m : List Int) (v : Nat) (k : Nat), Bytes l → (m ++ l).length ≤ 10 → v < 128 ^ m.length → 2 * l.length + 1 ≤ k → wire_take.l0 k (v : Int) (m ++ l) ((m ++ l).length : Int) (m.length : Int) = some (tk m.length v l)
  | [], m, v, k, hb, hl, hv, hk => by
    obtain ⟨k, rfl⟩ : ∃ j, k = j + 1 := ⟨k - 1, by omega⟩
    simp only [wire_take.l0]
    rw [if_neg (by simp)]
    rfl
  | c :: l, m, v, k, hb, hl, hv, hk => by
    have hc := hb c List.mem_cons_self
    have hl' := hl
    rw [List.length_append, List.length_cons] at hl'
    rw [List.length_cons] at hk
    obtain ⟨k, rfl⟩ : ∃ j, k = (j + 1) + 1 := ⟨k - 2, by omega⟩
    obtain ⟨c, rfl⟩ := Int.eq_ofNat_of_zero_le hc.1
    simp only [wire_take.l0, tk]
    rw [if_pos (by simp; omega), if_pos (by omega), if_pos (by simp; omega), rd_cons]
    have hb1 : (if (m.length : Int) = 9 then wire_take.j1 (k + 1) (v : Int) (m.length : Int) (c : Int) (m ++ (c : Int) :: l) ((m ++ (c : Int) :: l).length : Int) (m.length : Int) (decide ((c : Int) > 1)) else wire_take.j1 (k + 1) (v : Int) (m.length : Int) (c : Int) (m ++ (c : Int) :: l) ((m ++ (c : Int) :: l).length : Int) (m.length : Int) false) =
        wire_take.j1 (k + 1) (v : Int) (m.length : Int) (c : Int) (m ++ (c : Int) :: l) ((m ++ (c : Int) :: l).length : Int) (m.length : Int) (decide (m.length = 9 ∧ (c : Int) > 1)) := by
      by_cases h9 : m.length = 9
      · rw [if_pos (by omega)]
        simp [h9]
      · rw [if_neg (by omega)]
        simp [h9]
    rw [hb1]
    simp only [wire_take.j1]
    by_cases h9 : m.length = 9 ∧ (c : Int) > 1
    · rw [decide_eq_true h9, if_pos rfl, if_pos h9]
    · rw [decide_eq_false h9, if_neg (by decide), if_neg h9]
      have e7' : wrap64 (7 * (m.length : Int)) = 7 * m.length := by unfold wrap64; omega
      have e7 : 0 ≤ wrap64 (7 * (m.length : Int)) := by rw [e7']; omega
      rw [if_pos e7]
      obtain ⟨e1, e2⟩ := or_shift (v := v) (c := c) (i := m.length) hv (by omega) (by omega) (fun h => by omega)
      rw [e1, Int.toNat_natCast]
      by_cases h128 : (c : Int) < 128
      · rw [if_pos h128, if_pos h128]
        by_cases hz : (c : Int) = 0
        · rw [if_pos hz]
          by_cases hm : (m.length : Int) > 0
          · rw [if_pos hm, if_pos ⟨hz, by omega⟩]
          · rw [if_neg hm, if_neg (by omega), zag_bits _ e2, w1 (by omega) (by omega)]
        · rw [if_neg hz, if_neg (by omega), zag_bits _ e2, w1 (by omega) (by omega)]
      · rw [if_neg h128, if_neg h128, w1 (by omega) (by omega)]
        have hv' : v + c % 128 * 128 ^ m.length < 128 ^ (m.length + 1) := by
          have h4 : c % 128 ≤ 127 := by omega
          have h5 : c % 128 * 128 ^ m.length ≤ 127 * 128 ^ m.length := Nat.mul_le_mul_right _ h4
          rw [Nat.pow_succ]
          omega
        have := take_l0 l (m ++ [(c : Int)]) (v + c % 128 * 128 ^ m.length) k (fun x hx => hb x (List.mem_cons_of_mem _ hx)) (by simp; omega) (by simpa using hv') (by omega)
        simp only [List.append_assoc, List.cons_append, List.nil_append, List.length_append, List.length_cons, List.length_nil] at this ⊢
        have e : ((m.length + (0 + 1) : Nat) : Int) = (m.length : Int) + 1 := by omega
        rw [e] at this
        exact this
/-- What take answers. -/
def takeOf (l : List Int) : Int × Int := tk 0 0 (l.take 10)
theorem take_comes {l : List Int} (hb : Bytes l) (hl : l.length ≤ 140737488355328) : ∀ k, 21 ≤ k → wire_take.f k l = some (takeOf l) := by
  intro k hk
  have hm : mn (l.length : Int) 10 = ((min l.length 10 : Nat) : Int) := by unfold mn; split <;> omega
  unfold wire_take.f
  rw [hm, if_pos (by omega), if_pos (by omega), Int.toNat_natCast]
  have e : l.take (min l.length 10) = l.take 10 := by
    by_cases h : l.length ≤ 10
    · rw [Nat.min_eq_left h, List.take_of_length_le (Nat.le_refl _), List.take_of_length_le h]
    · rw [Nat.min_eq_right (by omega)]
  rw [e]
  have := take_l0 (l.take 10) [] 0 k (hb.take 10) (by simp; omega) (by simp) (by simp; omega)
  simp only [List.nil_append, List.length_nil] at this
  rw [show ((0 : Nat) : Int) = 0 from rfl] at this
  exact this
theorem tk_enc : ∀ (n : Nat) (u : Nat), u ≤ n → ∀ (i v : Nat) (r : List Int), u * 128 ^ i < 18446744073709551616 → (0 < i → 0 < u) → i ≤ 9 → tk i v (enc u ++ r) = (zag (v + u * 128 ^ i), (i : Int) + (enc u).length) := by
  intro n
  induction n with
  | zero =>
    intro u hu i v r hlt hpos hi
    obtain rfl : u = 0 := by omega
    have hi0 : i = 0 := by rcases Nat.eq_zero_or_pos i with h | h; exact h; exact absurd (hpos h) (by omega)
    subst hi0
    rw [enc_small (by omega)]
    simp [tk]
  | succ n ih =>
    intro u hu i v r hlt hpos hi
    have h9 : i = 9 → u ≤ 1 := by
      intro h
      subst h
      have e9 : (128 : Nat) ^ 9 = 9223372036854775808 := by decide
      rw [e9] at hlt
      omega
    by_cases h : u < 128
    · rw [enc_small h]
      simp only [tk, List.cons_append]
      rw [if_neg (by omega), if_pos (by omega)]
      have hz : ¬ ((u : Int) = 0 ∧ 0 < i) := fun q => by have := hpos q.2; omega
      rw [if_neg hz, Int.toNat_natCast, Nat.mod_eq_of_lt h]
      rfl
    · rw [enc_big (by omega)]
      simp only [tk, List.cons_append]
      have hi9 : i ≠ 9 := fun q => by have := h9 q; omega
      rw [if_neg (by omega), if_neg (by omega), Int.toNat_natCast]
      have e1 : (u % 128 + 128) % 128 = u % 128 := by omega
      have hle : u / 128 * 128 ^ (i + 1) ≤ u * 128 ^ i := by
        rw [Nat.pow_succ, Nat.mul_comm (128 ^ i) 128, ← Nat.mul_assoc]
        exact Nat.mul_le_mul_right _ (Nat.div_mul_le_self u 128)
      rw [e1, ih (u / 128) (by omega) (i + 1) _ r (by omega) (fun _ => by omega) (by omega)]
      have e2 : v + u % 128 * 128 ^ i + u / 128 * 128 ^ (i + 1) = v + u * 128 ^ i := by
        rw [Nat.pow_succ, Nat.mul_comm (128 ^ i) 128, ← Nat.mul_assoc, Nat.add_assoc, ← Nat.add_mul]
        congr 2
        omega
      rw [e2, List.length_cons]
      congr 1
      omega
theorem take_num {n : Int} (hn : I64 n) (r : List Int) : takeOf (num n ++ r) = (n, ((num n).length : Int)) := by
  unfold takeOf
  have hle := num_le hn
  rw [List.take_append, List.take_of_length_le hle]
  have := tk_enc _ (zig n) (Nat.le_refl _) 0 0 (r.take (10 - (num n).length)) (by simpa using zig_lt hn) (fun h => absurd h (by decide)) (by decide)
  unfold num at this ⊢
  rw [this]
  simp [zag_zig]
theorem tk_inv : ∀ (l : List Int) (i v : Nat), Bytes l → i + l.length ≤ 10 → v < 128 ^ i → (tk i v l).2 ≠ 0 → ∃ u r, l = enc u ++ r ∧ tk i v l = (zag (v + u * 128 ^ i), (i : Int) + (enc u).length) ∧ (0 < i → 0 < u) ∧ v + u * 128 ^ i < 18446744073709551616
  | [], i, v, hb, hl, hv, h => by simp [tk] at h
  | c :: l, i, v, hb, hl, hv, h => by
    have hc := hb c List.mem_cons_self
    rw [List.length_cons] at hl
    obtain ⟨c, rfl⟩ := Int.eq_ofNat_of_zero_le hc.1
    simp only [tk] at h ⊢
    by_cases h9 : i = 9 ∧ (c : Int) > 1
    · rw [if_pos h9] at h
      simp at h
    · rw [if_neg h9] at h ⊢
      obtain ⟨_, hlt⟩ := or_shift (v := v) (c := c) (i := i) hv (by omega) (by omega) (fun q => by omega)
      by_cases h128 : (c : Int) < 128
      · rw [if_pos h128] at h ⊢
        by_cases hz : (c : Int) = 0 ∧ 0 < i
        · rw [if_pos hz] at h
          simp at h
        · rw [if_neg hz]
          rw [Int.toNat_natCast, Nat.mod_eq_of_lt (by omega)]
          rw [Nat.mod_eq_of_lt (by omega)] at hlt
          exact ⟨c, l, by rw [enc_small (by omega)]; rfl, by rw [enc_small (by omega)]; rfl, fun q => by omega, hlt⟩
      · rw [if_neg h128, Int.toNat_natCast] at h ⊢
        have hv' : v + c % 128 * 128 ^ i < 128 ^ (i + 1) := by
          have h4 : c % 128 ≤ 127 := by omega
          have h5 : c % 128 * 128 ^ i ≤ 127 * 128 ^ i := Nat.mul_le_mul_right _ h4
          rw [Nat.pow_succ]
          omega
        obtain ⟨u, r, h1, h2, h3, h4⟩ := tk_inv l (i + 1) _ (fun x hx => hb x (List.mem_cons_of_mem _ hx)) (by omega) hv' h
        have hu := h3 (by omega)
        have e0 : 128 ≤ 128 * u + c % 128 := by omega
        have e1 : (128 * u + c % 128) / 128 = u := by omega
        have e2 : (128 * u + c % 128) % 128 + 128 = c := by omega
        have e3 : v + (128 * u + c % 128) * 128 ^ i = v + c % 128 * 128 ^ i + u * 128 ^ (i + 1) := by
          rw [Nat.pow_succ, Nat.add_mul, Nat.mul_comm (128 ^ i) 128, ← Nat.mul_assoc, Nat.mul_comm u 128]
          omega
        refine ⟨128 * u + c % 128, r, ?_, ?_, fun _ => by omega, by rw [e3]; exact h4⟩
        · rw [enc_big e0, e1, e2, h1]
          rfl
        · rw [h2, enc_big e0, e1, e3, List.length_cons]
          congr 1
          omega
theorem take_inv {l : List Int} (hb : Bytes l) (h : (takeOf l).2 ≠ 0) : ∃ n r, I64 n ∧ l = num n ++ r ∧ takeOf l = (n, ((num n).length : Int)) := by
  unfold takeOf at h
  obtain ⟨u, r, h1, h2, _, h4⟩ := tk_inv (l.take 10) 0 0 (hb.take 10) (by simp; omega) (by simp) h
  simp only [Nat.pow_zero, Nat.mul_one, Nat.zero_add] at h2 h4
  refine ⟨zag u, r ++ l.drop 10, zag_i64 h4, ?_, ?_⟩
  · unfold num
    rw [zig_zag, ← List.append_assoc, ← h1, List.take_append_drop]
  · unfold takeOf num
    rw [zig_zag, h2]
    simp
end Go.Proofs.Ytbphmpncajfaiaa.M
/- Plain: Takes, TakeRow, Take and Ints. -/
namespace Go.Proofs.Ytbphmpncajfaiaa.M
open Go.RowKit Go.Proofs.Ytbphmpncajfaiaa.Py Go.Proofs.YtbphmpncajfaiaaW.PrintWords
set_option linter.unusedVariables false
set_option linter.unusedSimpArgs false
theorem takes_l0 (cnt : Nat) (hcnt : cnt ≤ 4096) : ∀ (l acc : List Int) (r : List Int) (i : Nat) (k : Nat), (∀ x ∈ l, I64 x) → i + l.length = cnt → Bytes r → r.length ≤ 140737488300000 → acc.length ≤ 4096 → acc.length + l.length ≤ 4096 → l.length + 22 ≤ k →
    wire_Takes.l0 k (nums l ++ r) acc (cnt : Int) (i : Int) = some (acc ++ l, r, none)
  | [], acc, r, i, k, hI, hi, hr, hl, ha, ha', hk => by
    obtain ⟨k, rfl⟩ : ∃ j, k = j + 1 := ⟨k - 1, by omega⟩
    simp only [wire_Takes.l0]
    rw [if_neg (by simp at hi; omega)]
    have e : nums [] ++ r = r := rfl
    rw [e, clone_f (by omega)]
    simp
  | n :: l, acc, r, i, k, hI, hi, hr, hl, ha, ha', hk => by
    have hn := hI n List.mem_cons_self
    have hI' : ∀ x ∈ l, I64 x := fun x hx => hI x (List.mem_cons_of_mem _ hx)
    rw [List.length_cons] at hi hk ha'
    have hle := num_le hn
    have hp : 0 < (num n).length := enc_pos _
    have hnl := nums_len hI'
    obtain ⟨k, rfl⟩ : ∃ j, k = j + 1 := ⟨k - 1, by omega⟩
    have e : nums (n :: l) ++ r = num n ++ (nums l ++ r) := by simp [nums]
    simp only [wire_Takes.l0]
    rw [if_pos (by omega), e, take_comes ((num_bytes n).append ((nums_bytes l).append hr)) (by simp; omega) k (by omega), take_num hn]
    simp only [Option.bind_some]
    rw [if_neg (by omega), if_pos (by omega), if_pos (by omega), if_pos (by simp; omega), Int.toNat_natCast, List.drop_left, w1 (by omega) (by omega)]
    have := takes_l0 cnt hcnt l (acc ++ [n]) r (i + 1) k hI' (by omega) hr hl (by simp; omega) (by simp; omega) (by omega)
    have e' : ((i + 1 : Nat) : Int) = (i : Int) + 1 := by omega
    rw [e'] at this
    rw [this, List.append_assoc]
    rfl
theorem takes_comes {l r : List Int} (hI : ∀ x ∈ l, I64 x) (hl : l.length ≤ 4096) (hr : Bytes r) (hrl : r.length ≤ 140737488300000) : Comes (fun k => wire_Takes.f k (nums l ++ r) (l.length : Int)) (l, r, none) := by
  refine Comes.of (l.length + 23) (fun k hk => ?_)
  obtain ⟨k, rfl⟩ : ∃ j, k = j + 1 := ⟨k - 1, by omega⟩
  show wire_Takes.f (k + 1) (nums l ++ r) (l.length : Int) = _
  unfold wire_Takes.f
  rw [if_neg (by omega), decide_eq_false (by omega)]
  simp only [wire_Takes.j0]
  rw [if_neg (by decide)]
  have := takes_l0 l.length hl l [] r 0 k hI (by omega) hr hrl (by simp) (by simpa using hl) (by omega)
  exact this
theorem takerow_comes {row more : List Int} (hb : Bytes (row ++ more)) (hl : row.length + more.length ≤ 140737488300000) : Comes (fun k => wire_TakeRow.f k (num (row.length : Int) ++ row ++ more)) (row, more, none) := by
  have hn : I64 (row.length : Int) := by unfold I64; omega
  have hle := num_le hn
  have hp : 0 < (num (row.length : Int)).length := enc_pos _
  refine Comes.of 22 (fun k hk => ?_)
  obtain ⟨k, rfl⟩ : ∃ j, k = j + 1 := ⟨k - 1, by omega⟩
  show wire_TakeRow.f (k + 1) (num (row.length : Int) ++ row ++ more) = _
  unfold wire_TakeRow.f
  rw [List.append_assoc, take_comes ((num_bytes _).append hb) (by simp; omega) (k + 1) (by omega), take_num hn]
  simp only [Option.bind_some]
  have e1 : wrap64 (((num (row.length : Int) ++ (row ++ more)).length : Int) - ((num (row.length : Int)).length : Int)) = row.length + more.length := by
    simp only [List.length_append]
    unfold wrap64
    omega
  have e2 : wrap64 (((num (row.length : Int)).length : Int) + (row.length : Int)) = ((num (row.length : Int)).length + row.length : Nat) := by unfold wrap64; omega
  rw [if_neg (by omega), if_neg (by omega), e1, decide_eq_false (by omega)]
  simp only [wire_TakeRow.j0]
  rw [if_neg (by decide), if_pos (by omega), e2, if_pos (by omega), if_pos (by simp only [List.length_append]; omega), Int.toNat_natCast, Int.toNat_natCast]
  have e3 : ((num (row.length : Int) ++ (row ++ more)).take ((num (row.length : Int)).length + row.length)).drop (num (row.length : Int)).length = row := by
    rw [← List.append_assoc, List.take_left' (by simp), List.drop_left]
  have e4 : (num (row.length : Int) ++ (row ++ more)).drop ((num (row.length : Int)).length + row.length) = more := by
    rw [← List.append_assoc, List.drop_left' (by simp)]
  rw [e3, e4, clone_f (by omega), clone_f (by omega)]
  simp only [Option.bind_some]
  rw [if_pos (by omega)]
theorem ints_l0 : ∀ (l m : List Int) (k : Nat), (m ++ l).length ≤ 140737488300000 → l.length + 1 ≤ k → palimpsestnum_Ints.l0 k (m ++ l) (m ++ l) ((m ++ l).length : Int) (m.length : Int) = some true
  | [], m, k, hl, hk => by
    obtain ⟨k, rfl⟩ : ∃ j, k = j + 1 := ⟨k - 1, by omega⟩
    simp only [palimpsestnum_Ints.l0]
    rw [if_neg (by simp)]
  | n :: l, m, k, hl, hk => by
    have hl' := hl
    rw [List.length_append, List.length_cons] at hl'
    rw [List.length_cons] at hk
    obtain ⟨k, rfl⟩ : ∃ j, k = j + 1 := ⟨k - 1, by omega⟩
    simp only [palimpsestnum_Ints.l0]
    rw [if_pos (by simp; omega), if_pos (by omega), if_pos (by simp; omega), if_pos (by simp; omega), if_pos trivial, w1 (by omega) (by omega)]
    have := ints_l0 l (m ++ [n]) k (by simp; omega) (by omega)
    simp only [List.append_assoc, List.cons_append, List.nil_append, List.length_append, List.length_cons, List.length_nil] at this ⊢
    have e : ((m.length + (0 + 1) : Nat) : Int) = (m.length : Int) + 1 := by omega
    rw [e] at this
    exact this
theorem ints_comes {l : List Int} (hl : l.length ≤ 140737488300000) : Comes (fun k => palimpsestnum_Ints.f k l l) true := by
  refine Comes.of (l.length + 1) (fun k hk => ?_)
  show palimpsestnum_Ints.f k l l = _
  unfold palimpsestnum_Ints.f
  rw [if_pos rfl]
  have := ints_l0 l [] k (by simpa using hl) hk
  simp only [List.nil_append, List.length_nil] at this
  exact this
/-- Take: none, or a number whose bytes they are. -/
theorem take1_comes {l : List Int} (hb : Bytes l) (hl : l.length ≤ 140737488300000) : Comes (fun k => wire_Take.f k l) (0, [], some 4) ∨ ∃ n r, I64 n ∧ l = num n ++ r ∧ Comes (fun k => wire_Take.f k l) (n, r, none) := by
  by_cases h : (takeOf l).2 = 0
  · left
    refine Comes.of 21 (fun k hk => ?_)
    show wire_Take.f k l = _
    unfold wire_Take.f
    rw [take_comes hb (by omega) k hk]
    simp only [Option.bind_some]
    rw [if_pos h]
  · right
    obtain ⟨n, r, hn, hx, ht⟩ := take_inv hb h
    refine ⟨n, r, hn, hx, Comes.of 21 (fun k hk => ?_)⟩
    have hp : 0 < (num n).length := enc_pos _
    have hlr : (num n).length + r.length = l.length := by rw [hx]; simp
    show wire_Take.f k l = _
    unfold wire_Take.f
    rw [take_comes hb (by omega) k hk, ht]
    simp only [Option.bind_some]
    rw [if_neg (by omega), if_pos (by omega), if_pos (by omega), Int.toNat_natCast]
    have e : l.drop (num n).length = r := by rw [hx, List.drop_left]
    rw [e, clone_f (by omega)]
    rfl
end Go.Proofs.Ytbphmpncajfaiaa.M
/- Plain: the document's numbers and rows. -/
namespace Go.Proofs.Ytbphmpncajfaiaa.M
open Go.RowKit Go.Proofs.Ytbphmpncajfaiaa.Py Go.Proofs.YtbphmpncajfaiaaW.PrintWords
set_option linter.unusedVariables false
set_option linter.unusedSimpArgs false
theorem wu (x : Int) (h0 : 0 ≤ x) (h : x < 18446744073709551616) : IntKind.u64.wrap x = x := by
  have e : IntKind.u64.wrap x = x % 18446744073709551616 := by simp [IntKind.wrap, IntKind.bits, IntKind.signed]
  rw [e]
  omega
theorem number_l0 : ∀ (n u : Nat), u ≤ n → u < 18446744073709551616 → ∀ (acc : List Int) (k : Nat), acc.length + (enc u).length ≤ 140737488355328 → palimpsestref02_Number.l0 ((enc u).length + k) (u : Int) acc = some (acc ++ enc u) := by
  intro n
  induction n with
  | zero =>
    intro u hu hlt acc k hl
    rw [enc_small (show u < 128 by omega)] at hl ⊢
    rw [show [(u : Int)].length + k = k + 1 by simp; omega]
    simp only [palimpsestref02_Number.l0]
    rw [Int.tdiv_eq_ediv_of_nonneg (by omega), Int.tmod_eq_emod_of_nonneg (by omega), wu _ (by omega) (by omega), if_pos (by omega), if_pos (by simp at hl; omega)]
    have e : (u : Int) % 128 % 256 = u := by omega
    rw [e]
  | succ n ih =>
    intro u hu hlt acc k hl
    by_cases h : u < 128
    · rw [enc_small h] at hl ⊢
      rw [show [(u : Int)].length + k = k + 1 by simp; omega]
      simp only [palimpsestref02_Number.l0]
      rw [Int.tdiv_eq_ediv_of_nonneg (by omega), Int.tmod_eq_emod_of_nonneg (by omega), wu _ (by omega) (by omega), if_pos (by omega), if_pos (by simp at hl; omega)]
      have e : (u : Int) % 128 % 256 = u := by omega
      rw [e]
    · rw [enc_big (by omega)] at hl ⊢
      rw [List.length_cons] at hl ⊢
      rw [show (enc (u / 128)).length + 1 + k = ((enc (u / 128)).length + k) + 1 by omega]
      simp only [palimpsestref02_Number.l0]
      rw [Int.tdiv_eq_ediv_of_nonneg (by omega), Int.tmod_eq_emod_of_nonneg (by omega), wu _ (by omega) (by omega), if_neg (by omega), if_pos (by omega)]
      have e1 : ((u : Int) % 128 % 256 + 128) % 256 = ((u % 128 + 128 : Nat) : Int) := by omega
      have e2 : (u : Int) / 128 = ((u / 128 : Nat) : Int) := by omega
      rw [e1, e2, ih (u / 128) (by omega) (by omega) _ k (by simp; omega), List.append_assoc]
      rfl
theorem number_f {n : Int} (h : I64 n) : ∀ k, 11 ≤ k → palimpsestref02_Number.f k n = some (num n) := by
  intro k hk
  have hlt := zig_lt h
  have hle := num_le h
  unfold num at hle
  have key : palimpsestref02_Number.j0 k ((zig n : Nat) : Int) = some (num n) := by
    obtain ⟨k, rfl⟩ : ∃ j, k = ((enc (zig n)).length + j) + 1 := ⟨k - 1 - (enc (zig n)).length, by omega⟩
    simp only [palimpsestref02_Number.j0]
    have := number_l0 _ (zig n) (Nat.le_refl _) hlt [] k (by simp; omega)
    rw [this]
    rfl
  unfold I64 at h
  unfold palimpsestref02_Number.f
  by_cases h0 : n < 0
  · rw [if_pos h0]
    have e1 : wrap64 (n + 1) = n + 1 := by unfold wrap64; omega
    have e2 : wrap64 (-(n + 1)) = -(n + 1) := by unfold wrap64; omega
    rw [e1, e2, wu (-(n + 1)) (by omega) (by omega), wu (-(n + 1) * 2) (by omega) (by omega), wu (-(n + 1) * 2 + 1) (by omega) (by omega)]
    have e : -(n + 1) * 2 + 1 = ((zig n : Nat) : Int) := by unfold zig; rw [if_neg (by omega)]; omega
    rw [e]
    exact key
  · rw [if_neg h0, wu n (by omega) (by omega), wu _ (by omega) (by omega)]
    have e : n * 2 = ((zig n : Nat) : Int) := by unfold zig; rw [if_pos (by omega)]; omega
    rw [e]
    exact key
theorem rput_l0 : ∀ (l m acc : List Int) (k : Nat), (∀ x ∈ l, I64 x) → acc.length + 10 * l.length ≤ 140737488355000 → (m ++ l).length ≤ 140737488355000 → l.length + 13 ≤ k → palimpsestref02_Put.l0 k (m ++ l) acc (m.length : Int) = some (acc ++ nums l)
  | [], m, acc, k, hI, ha, hl, hk => by
    obtain ⟨k, rfl⟩ : ∃ j, k = j + 1 := ⟨k - 1, by omega⟩
    simp only [palimpsestref02_Put.l0]
    rw [if_neg (by simp)]
    simp [nums]
  | n :: l, m, acc, k, hI, ha, hl, hk => by
    have hn := hI n List.mem_cons_self
    have hle := num_le hn
    rw [List.length_cons] at ha hk
    have hl' := hl
    rw [List.length_append, List.length_cons] at hl'
    obtain ⟨k, rfl⟩ : ∃ j, k = j + 1 := ⟨k - 1, by omega⟩
    simp only [palimpsestref02_Put.l0]
    rw [if_pos (by simp; omega), if_pos (by omega), rd_cons, number_f hn k (by omega)]
    simp only [Option.bind_some]
    rw [if_pos (by omega), w1 (by omega) (by omega)]
    have := rput_l0 l (m ++ [n]) (acc ++ num n) k (fun x hx => hI x (List.mem_cons_of_mem _ hx)) (by rw [List.length_append]; omega) (by simp; omega) (by omega)
    simp only [List.append_assoc, List.cons_append, List.nil_append, List.length_append, List.length_cons, List.length_nil] at this ⊢
    have e : ((m.length + (0 + 1) : Nat) : Int) = (m.length : Int) + 1 := by omega
    rw [e] at this
    rw [this]
    simp [nums]
theorem rput_comes {acc l : List Int} (hI : ∀ x ∈ l, I64 x) (ha : acc.length + 10 * l.length ≤ 140737488355000) (hl : l.length ≤ 140737488355000) : Comes (fun k => palimpsestref02_Put.f k acc l) (acc ++ nums l) := by
  refine Comes.of (l.length + 13) (fun k hk => ?_)
  show palimpsestref02_Put.f k acc l = _
  unfold palimpsestref02_Put.f
  simp only [Option.bind_some, List.nil_append, List.length_nil]
  rw [if_pos (by omega)]
  have := rput_l0 l [] acc k hI ha (by simpa using hl) hk
  simp only [List.nil_append, List.length_nil] at this
  exact this
theorem rrow_comes {row : List Int} (hl : 10 + row.length ≤ 140737488355000) : Comes (fun k => palimpsestref02_Row.f k row) (num (row.length : Int) ++ row) := by
  refine Comes.of 11 (fun k hk => ?_)
  show palimpsestref02_Row.f k row = _
  have hI : I64 (row.length : Int) := by unfold I64; omega
  have := num_le hI
  unfold palimpsestref02_Row.f
  rw [number_f hI k hk]
  simp only [Option.bind_some]
  rw [if_pos (by omega)]
end Go.Proofs.Ytbphmpncajfaiaa.M
