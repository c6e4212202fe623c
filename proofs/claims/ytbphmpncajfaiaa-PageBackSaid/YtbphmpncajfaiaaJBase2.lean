/- Joined: M9, M10, K26, K27, K28, K29, K2, K30, K21, K22, K31, K1, K3, K4, K33, K32, K34, K5 -/
import Derived.Test.YtbphmpncajfaiaaJBase1
import Derived.LaidEql
import Derived.Test.YtbphmpncajfaiaaWSized
import Derived.ProofKit
import Derived.OpenShut
import Derived.ShutString
import Derived.ChangeOld
import Derived.SizedLaws
import Derived.Lib.SmallJoins
/- Joined by merge.py of: YtbphmpncajfaiaaM6, YtbphmpncajfaiaaM7, YtbphmpncajfaiaaM8 -/
/- Plain: numbers' bytes, written and taken. -/
namespace Go.Proofs.Ytbphmpncajfaiaa.M
open Go.RowKit Go.Proofs.Ytbphmpncajfaiaa.Py Go.Proofs.YtbphmpncajfaiaaW.PrintWords
set_option linter.unusedVariables false
set_option linter.unusedSimpArgs false
def I64 (x : Int) : Prop := -9223372036854775808 ≤ x ∧ x ≤ 9223372036854775807
/-- Seven bits a byte, the lowest first. -/
def enc (u : Nat) : List Int := if u < 128 then [(u : Int)] else ((u % 128 + 128 : Nat) : Int) :: enc (u / 128)
termination_by u
decreasing_by omega
theorem enc_small {u : Nat} (h : u < 128) : enc u = [(u : Int)] := by rw [enc, if_pos h]
theorem enc_big {u : Nat} (h : 128 ≤ u) : enc u = ((u % 128 + 128 : Nat) : Int) :: enc (u / 128) := by rw [enc, if_neg (by omega)]
def zig (n : Int) : Nat := if 0 ≤ n then (2 * n).toNat else (-2 * n - 1).toNat
def zag (u : Nat) : Int := if u % 2 = 0 then ((u / 2 : Nat) : Int) else -((u / 2 : Nat) : Int) - 1
theorem zag_zig (n : Int) : zag (zig n) = n := by
  unfold zag zig
  split <;> split <;> omega
theorem zig_zag (u : Nat) : zig (zag u) = u := by
  unfold zag zig
  split <;> split <;> omega
theorem zig_lt {n : Int} (h : I64 n) : zig n < 18446744073709551616 := by
  unfold I64 at h
  unfold zig
  split <;> omega
theorem zag_i64 {u : Nat} (h : u < 18446744073709551616) : I64 (zag u) := by
  unfold I64 zag
  split <;> omega
def num (n : Int) : List Int := enc (zig n)
def nums (l : List Int) : List Int := (l.map num).flatten
theorem enc_bytes : ∀ (n : Nat) (u : Nat), u ≤ n → Bytes (enc u) := by
  intro n
  induction n with
  | zero =>
    intro u h
    rw [enc_small (by omega)]
    intro x hx
    rw [List.mem_singleton] at hx
    omega
  | succ n ih =>
    intro u h
    by_cases h1 : u < 128
    · rw [enc_small h1]
      intro x hx
      rw [List.mem_singleton] at hx
      omega
    · rw [enc_big (by omega)]
      intro x hx
      rcases List.mem_cons.1 hx with h2 | h2
      · omega
      · exact ih (u / 128) (by omega) x h2
theorem num_bytes (n : Int) : Bytes (num n) := enc_bytes _ _ (Nat.le_refl _)
theorem enc_pos (u : Nat) : 0 < (enc u).length := by
  by_cases h : u < 128
  · rw [enc_small h]; simp
  · rw [enc_big (by omega)]; simp
theorem enc_le : ∀ (k u : Nat), u < 128 ^ (k + 1) → (enc u).length ≤ k + 1
  | 0, u, h => by rw [enc_small (by simpa using h)]; simp
  | k + 1, u, h => by
    by_cases h1 : u < 128
    · rw [enc_small h1]; simp
    · rw [enc_big (by omega), List.length_cons]
      have := enc_le k (u / 128) (by rw [Nat.pow_succ] at h; omega)
      omega
theorem num_le {n : Int} (h : I64 n) : (num n).length ≤ 10 := enc_le 9 _ (Nat.lt_of_lt_of_le (zig_lt h) (by decide))
theorem num_one (n : Int) : (num n).length = 1 ↔ -64 ≤ n ∧ n < 64 := by
  unfold num
  by_cases h : zig n < 128
  · rw [enc_small h]
    unfold zig at h
    split at h <;> simp <;> omega
  · rw [enc_big (by omega)]
    have := enc_pos (zig n / 128)
    unfold zig at h
    rw [List.length_cons]
    split at h <;> omega
theorem nums_bytes (l : List Int) : Bytes (nums l) := fun x hx => by
  obtain ⟨m, hm, hx⟩ := List.mem_flatten.1 hx
  obtain ⟨n, _, rfl⟩ := List.mem_map.1 hm
  exact num_bytes n x hx
theorem nums_len {l : List Int} (h : ∀ x ∈ l, I64 x) : (nums l).length ≤ 10 * l.length := by
  induction l with
  | nil => simp [nums]
  | cons n l ih =>
    have h1 := num_le (h n List.mem_cons_self)
    have h2 := ih (fun x hx => h x (List.mem_cons_of_mem _ hx))
    unfold nums at h2 ⊢
    rw [List.map_cons, List.flatten_cons, List.length_append, List.length_cons]
    omega

/-! #### bits -/
theorem or_u8_128 {x : Int} (h0 : 0 ≤ x) (h1 : x < 256) : bits .or .u8 x 128 = x % 128 + 128 := by
  obtain ⟨a, rfl⟩ := Int.eq_ofNat_of_zero_le h0
  rw [show (128 : Int) = ((128 : Nat) : Int) from rfl, (bits_nat .u8 8 (by decide) wraps_u8 a 128 (by omega) (by decide)).2]
  have h : ∀ a : Fin 256, (a.val ||| 128) = a.val % 128 + 128 := by decide +kernel
  have := h ⟨a, by omega⟩
  simp only at this
  rw [this]
  omega
theorem xor_ones_u64 {a : Int} (h0 : 0 ≤ a) (h1 : a < 18446744073709551616) : bits .xor .u64 a 18446744073709551615 = 18446744073709551615 - a := by
  obtain ⟨x, rfl⟩ := Int.eq_ofNat_of_zero_le h0
  have e : BitVec.ofInt 64 18446744073709551615 = BitVec.allOnes 64 := by decide
  have hx : (BitVec.ofInt 64 (x : Int)).toNat = x := by rw [BitVec.ofInt_natCast, BitVec.toNat_ofNat]; exact Nat.mod_eq_of_lt (by omega)
  show IntKind.u64.wrap ((BitVec.ofInt 64 (x : Int) ^^^ BitVec.ofInt 64 18446744073709551615).toNat : Int) = _
  rw [e, BitVec.xor_allOnes, BitVec.toNat_not, hx, IntKind.wrap_u64]
  omega
theorem xor_zero_u64 {a : Int} (h0 : 0 ≤ a) (h1 : a < 18446744073709551616) : bits .xor .u64 a 0 = a := by
  obtain ⟨x, rfl⟩ := Int.eq_ofNat_of_zero_le h0
  rw [show (0 : Int) = ((0 : Nat) : Int) from rfl, bits_xor_u64_nat x 0 (by omega) (by decide), Nat.xor_zero]
theorem xor_zero_i64 {a : Int} (h0 : 0 ≤ a) (h1 : a < 9223372036854775808) : bits .xor .i64 a 0 = a := by
  obtain ⟨x, rfl⟩ := Int.eq_ofNat_of_zero_le h0
  have hx : (BitVec.ofInt 64 (x : Int)).toNat = x := by rw [BitVec.ofInt_natCast, BitVec.toNat_ofNat]; exact Nat.mod_eq_of_lt (by omega)
  show IntKind.i64.wrap ((BitVec.ofInt 64 (x : Int) ^^^ BitVec.ofInt 64 0).toNat : Int) = _
  rw [show BitVec.ofInt 64 0 = 0#64 by decide, BitVec.xor_zero, hx, IntKind.wrap_i64]
  omega
theorem xor_ones_i64 {a : Int} (h0 : 0 ≤ a) (h1 : a < 9223372036854775808) : bits .xor .i64 a (-1) = -a - 1 := by
  obtain ⟨x, rfl⟩ := Int.eq_ofNat_of_zero_le h0
  have e : BitVec.ofInt 64 (-1) = BitVec.allOnes 64 := by decide
  have hx : (BitVec.ofInt 64 (x : Int)).toNat = x := by rw [BitVec.ofInt_natCast, BitVec.toNat_ofNat]; exact Nat.mod_eq_of_lt (by omega)
  show IntKind.i64.wrap ((BitVec.ofInt 64 (x : Int) ^^^ BitVec.ofInt 64 (-1)).toNat : Int) = _
  rw [e, BitVec.xor_allOnes, BitVec.toNat_not, hx, IntKind.wrap_i64]
  omega
theorem and_one_u64 (u : Nat) (h : u < 18446744073709551616) : bits .and .u64 (u : Int) 1 = ((u % 2 : Nat) : Int) := by
  have := bits_mask .u64 64 (by decide) (fun n h0 h1 => by rw [IntKind.wrap_u64]; omega) 1 (by decide) (u : Int) (by omega) (by omega)
  simpa using this
theorem zag_bits (u : Nat) (h : u < 18446744073709551616) : bits .xor .i64 (wrap64 ((u : Int) / 2)) (wrap64 (-(wrap64 (bits .and .u64 (u : Int) 1)))) = zag u := by
  rw [and_one_u64 u h]
  have e1 : wrap64 ((u : Int) / 2) = ((u / 2 : Nat) : Int) := by unfold wrap64; omega
  rw [e1]
  by_cases h2 : u % 2 = 0
  · rw [h2]
    have e2 : wrap64 (-(wrap64 ((0 : Nat) : Int))) = 0 := by unfold wrap64; omega
    rw [e2, xor_zero_i64 (by omega) (by omega)]
    unfold zag
    rw [if_pos h2]
  · have h3 : u % 2 = 1 := by omega
    rw [h3]
    have e2 : wrap64 (-(wrap64 ((1 : Nat) : Int))) = -1 := by unfold wrap64; omega
    rw [e2, xor_ones_i64 (by omega) (by omega)]
    unfold zag
    rw [if_neg h2]
theorem or_shift {v c i : Nat} (hv : v < 128 ^ i) (hi : i ≤ 9) (hc : c < 256) (h9 : i = 9 → c ≤ 1) :
    bits .or .u64 (v : Int) (shl .u64 (IntKind.u64.wrap (bits .and .u8 (c : Int) 127)) (wrap64 (7 * (i : Int)))) = ((v + c % 128 * 128 ^ i : Nat) : Int) ∧ v + c % 128 * 128 ^ i < 18446744073709551616 := by
  have e1 : bits .and .u8 (c : Int) 127 = ((c % 128 : Nat) : Int) := by
    have := bits_mask .u8 8 (by decide) wraps_u8 7 (by decide) (c : Int) (by omega) (by omega)
    simpa using this
  have hp : (2 : Nat) ^ (7 * i) = 128 ^ i := by rw [Nat.pow_mul]
  have hle : (128 : Nat) ^ i ≤ 128 ^ 9 := Nat.pow_le_pow_right (by decide) hi
  have hle8 : i ≠ 9 → (128 : Nat) ^ i ≤ 128 ^ 8 := fun h => Nat.pow_le_pow_right (by decide) (by omega)
  have hpos : 0 < (128 : Nat) ^ i := Nat.pow_pos (by decide)
  have e9 : (128 : Nat) ^ 9 = 9223372036854775808 := by decide
  have e8 : (128 : Nat) ^ 8 = 72057594037927936 := by decide
  have hb : c % 128 * 128 ^ i ≤ 9223372036854775808 := by
    by_cases h : i = 9
    · have := h9 h
      have h4 : c % 128 ≤ 1 := by omega
      calc c % 128 * 128 ^ i ≤ 1 * 128 ^ i := Nat.mul_le_mul_right _ h4
        _ ≤ _ := by omega
    · have h4 : c % 128 ≤ 127 := by omega
      calc c % 128 * 128 ^ i ≤ 127 * 128 ^ i := Nat.mul_le_mul_right _ h4
        _ ≤ _ := by have := hle8 h; omega
  have e2 : IntKind.u64.wrap ((c % 128 : Nat) : Int) = ((c % 128 : Nat) : Int) := by rw [IntKind.wrap_u64]; omega
  have e3 : wrap64 (7 * (i : Int)) = ((7 * i : Nat) : Int) := by unfold wrap64; omega
  rw [e1, e2, e3]
  have e4 : shl .u64 ((c % 128 : Nat) : Int) ((7 * i : Nat) : Int) = ((c % 128 * 128 ^ i : Nat) : Int) := by
    unfold shl
    rw [Int.toNat_natCast, show IntKind.u64.bits = 64 from rfl, Nat.min_eq_left (by omega), ← hp, IntKind.wrap_u64]
    have h5 : (((c % 128 : Nat) : Int) * 2 ^ (7 * i)) = ((c % 128 * 2 ^ (7 * i) : Nat) : Int) := by rw [Int.natCast_mul, Int.natCast_pow]; rfl
    rw [h5]
    rw [← hp] at hb
    omega
  rw [e4]
  have hsum : v + c % 128 * 128 ^ i < 18446744073709551616 := by omega
  refine ⟨?_, hsum⟩
  have hcm : bits .or .u64 (v : Int) ((c % 128 * 128 ^ i : Nat) : Int) = bits .or .u64 ((c % 128 * 128 ^ i : Nat) : Int) (v : Int) := by simp only [bits, BitVec.or_comm]
  have hpi : ((2 : Int) ^ (7 * i)) = ((128 ^ i : Nat) : Int) := by rw [← hp, Int.natCast_pow]; rfl
  rw [hcm, bits_join .u64 64 (by decide) (fun n h0 h1 => by rw [IntKind.wrap_u64]; omega) (7 * i) _ _ (by omega) (by rw [hpi, ← Int.natCast_emod, Nat.mul_mod_left]; rfl) (by omega) (by omega) (by rw [hpi]; omega) (by omega)]
  omega

/-! #### put -/
theorem turned_f {n : Int} (h : I64 n) : wire_turned.f n = some ((zig n : Nat) : Int) := by
  unfold I64 at h
  unfold wire_turned.f
  congr 1
  by_cases h0 : 0 ≤ n
  · have e1 : IntKind.u64.wrap (IntKind.u64.wrap n * 2) = 2 * n := by rw [IntKind.wrap_u64, IntKind.wrap_u64]; omega
    have e2 : IntKind.u64.wrap (n / 9223372036854775808) = 0 := by rw [IntKind.wrap_u64]; omega
    rw [e1, e2, xor_zero_u64 (by omega) (by omega)]
    unfold zig
    rw [if_pos h0]
    omega
  · have e1 : IntKind.u64.wrap (IntKind.u64.wrap n * 2) = 2 * n + 18446744073709551616 := by rw [IntKind.wrap_u64, IntKind.wrap_u64]; omega
    have e2 : IntKind.u64.wrap (n / 9223372036854775808) = 18446744073709551615 := by rw [IntKind.wrap_u64]; omega
    rw [e1, e2, xor_ones_u64 (by omega) (by omega)]
    unfold zig
    rw [if_neg h0]
    omega
theorem put_l1 (x8 : List Int) (x9 x10 : Int) : ∀ (n : Nat) (u : Nat), u ≤ n → u < 18446744073709551616 → ∀ (acc : List Int) (k : Nat), acc.length + (enc u).length ≤ 140737488355328 → wire_put.l1 ((enc u).length + k) acc (u : Int) x8 x9 x10 = wire_put.l0 k (acc ++ enc u) x8 x9 (wrap64 (x10 + 1)) := by
  intro n
  induction n with
  | zero =>
    intro u hu hlt acc k hl
    rw [enc_small (show u < 128 by omega)] at hl ⊢
    rw [show [(u : Int)].length + k = k + 1 by simp; omega]
    simp only [wire_put.l1]
    rw [if_neg (by omega), if_pos (by simp at hl; omega)]
    have e : (u : Int) % 256 = u := by omega
    rw [e]
  | succ n ih =>
    intro u hu hlt acc k hl
    by_cases h : u < 128
    · rw [enc_small h] at hl ⊢
      rw [show [(u : Int)].length + k = k + 1 by simp; omega]
      simp only [wire_put.l1]
      rw [if_neg (by omega), if_pos (by simp at hl; omega)]
      have e : (u : Int) % 256 = u := by omega
      rw [e]
    · rw [enc_big (by omega)] at hl ⊢
      rw [List.length_cons] at hl ⊢
      rw [show (enc (u / 128)).length + 1 + k = ((enc (u / 128)).length + k) + 1 by omega]
      simp only [wire_put.l1]
      rw [if_pos (by omega), if_pos (by omega), or_u8_128 (by omega) (by omega)]
      have e1 : (u : Int) % 256 % 128 + 128 = ((u % 128 + 128 : Nat) : Int) := by omega
      have e2 : (u : Int) / 128 = ((u / 128 : Nat) : Int) := by omega
      rw [e1, e2, ih (u / 128) (by omega) (by omega) _ k (by simp; omega), List.append_assoc]
      rfl
theorem put_l0 : ∀ (l m acc : List Int) (k : Nat), (∀ x ∈ l, I64 x) → acc.length + 10 * l.length ≤ 140737488355000 → (m ++ l).length ≤ 140737488355000 → 11 * l.length + 1 ≤ k → wire_put.l0 k acc (m ++ l) ((m ++ l).length : Int) (m.length : Int) = some (acc ++ nums l)
  | [], m, acc, k, hI, ha, hl, hk => by
    obtain ⟨k, rfl⟩ : ∃ j, k = j + 1 := ⟨k - 1, by omega⟩
    simp only [wire_put.l0]
    rw [if_neg (by simp)]
    simp [nums]
  | n :: l, m, acc, k, hI, ha, hl, hk => by
    have hn := hI n List.mem_cons_self
    have hle := num_le hn
    have hp := enc_pos (zig n)
    have hl' := hl
    rw [List.length_cons] at ha hk
    rw [List.length_append, List.length_cons] at hl'
    unfold num at hle
    obtain ⟨k, rfl⟩ : ∃ j, k = ((enc (zig n)).length + j) + 1 := ⟨k - 1 - (enc (zig n)).length, by omega⟩
    simp only [wire_put.l0]
    rw [if_pos (by simp; omega), if_pos (by omega), if_pos (by simp; omega), rd_cons, turned_f hn]
    simp only [Option.bind_some]
    rw [put_l1 _ _ _ _ (zig n) (Nat.le_refl _) (zig_lt hn) acc k (by omega), w1 (by omega) (by omega)]
    have := put_l0 l (m ++ [n]) (acc ++ enc (zig n)) k (fun x hx => hI x (List.mem_cons_of_mem _ hx)) (by rw [List.length_append]; omega) (by simp; omega) (by omega)
    simp only [List.append_assoc, List.cons_append, List.nil_append, List.length_append, List.length_cons, List.length_nil] at this ⊢
    have e : ((m.length + (0 + 1) : Nat) : Int) = (m.length : Int) + 1 := by omega
    rw [e] at this
    rw [this]
    simp [nums, num]
theorem put_comes {acc l : List Int} (hI : ∀ x ∈ l, I64 x) (ha : acc.length + 10 * l.length ≤ 140737488355000) (hl : l.length ≤ 140737488355000) : Comes (fun k => wire_Put.f k acc l) (acc ++ nums l) := by
  refine Comes.of (11 * l.length + 1) (fun k hk => ?_)
  show wire_Put.f k acc l = _
  unfold wire_Put.f
  rw [clone_f (by omega)]
  simp only [Option.bind_some]
  unfold wire_put.f
  have := put_l0 l [] acc k hI ha (by simpa using hl) hk
  simp only [List.nil_append, List.length_nil] at this
  rw [show ((0 : Nat) : Int) = 0 from rfl] at this
  rw [this]
  rfl
theorem putrow_comes {acc row : List Int} (ha : acc.length + 10 + row.length ≤ 140737488355000) : Comes (fun k => wire_PutRow.f k acc row) (acc ++ num (row.length : Int) ++ row) := by
  have hI : ∀ x ∈ [(row.length : Int)], I64 x := fun x hx => by
    rw [List.mem_singleton] at hx
    subst hx
    unfold I64
    omega
  have h := put_comes (acc := acc) (l := [(row.length : Int)]) hI (by simp; omega) (by simp)
  have hle := num_le (hI _ List.mem_cons_self)
  have e : nums [(row.length : Int)] = num (row.length : Int) := by simp [nums]
  rw [e] at h
  refine (Comes.bind (g := fun k t214 => (if t214.length + row.length < 140737488355328 then (some (t214 ++ row)) else (none))) h (q := acc ++ num (row.length : Int) ++ row) ?_).congr (fun k => rfl)
  refine Comes.congr (g := fun _ => some (acc ++ num (row.length : Int) ++ row)) Comes.now (fun k => ?_)
  rw [if_pos (by rw [List.length_append]; omega)]

/-! #### take -/
def tk (i v : Nat) : List Int → Int × Int
  | [] => (0, 0)
  | c :: r => if i = 9 ∧ c > 1 then (0, 0) else if c < 128 then (if c = 0 ∧ 0 < i then (0, 0) else (zag (v + c.toNat % 128 * 128 ^ i), (i : Int) + 1)) else tk (i + 1) (v + c.toNat % 128 * 128 ^ i) r
theorem take_l0 : ∀ (l m : List Int) (v : Nat) (k : Nat), Bytes l → (m ++ l).length ≤ 10 → v < 128 ^ m.length → 2 * l.length + 1 ≤ k → wire_take.l0 k (v : Int) (m ++ l) ((m ++ l).length : Int) (m.length : Int) = some (tk m.length v l)
  | [], m, v, k, hb, hl, hv, hk => by
    obtain ⟨k, rfl⟩ : ∃ j, k = j + 1 := ⟨k - 1, by omega⟩
    simp only [wire_take.l0]
    rw [if_neg (by simp)]
    rfl
  | c :: l, m, v, k, hb, hl, hv, hk => by
    have hc := hb c List.mem_cons_self
    have hl' := hl
    rw [List.length_append, List.length_cons] at hl'
    rw [List.length_cons] at hk
    obtain ⟨k, rfl⟩ : ∃ j, k = (j + 1) + 1 := ⟨k - 2, by omega⟩
    obtain ⟨c, rfl⟩ := Int.eq_ofNat_of_zero_le hc.1
    simp only [wire_take.l0, tk]
    rw [if_pos (by simp; omega), if_pos (by omega), if_pos (by simp; omega), rd_cons]
    have hb1 : (if (m.length : Int) = 9 then wire_take.j1 (k + 1) (v : Int) (m.length : Int) (c : Int) (m ++ (c : Int) :: l) ((m ++ (c : Int) :: l).length : Int) (m.length : Int) (decide ((c : Int) > 1)) else wire_take.j1 (k + 1) (v : Int) (m.length : Int) (c : Int) (m ++ (c : Int) :: l) ((m ++ (c : Int) :: l).length : Int) (m.length : Int) false) =
        wire_take.j1 (k + 1) (v : Int) (m.length : Int) (c : Int) (m ++ (c : Int) :: l) ((m ++ (c : Int) :: l).length : Int) (m.length : Int) (decide (m.length = 9 ∧ (c : Int) > 1)) := by
      by_cases h9 : m.length = 9
      · rw [if_pos (by omega)]
        simp [h9]
      · rw [if_neg (by omega)]
        simp [h9]
    rw [hb1]
    simp only [wire_take.j1]
    by_cases h9 : m.length = 9 ∧ (c : Int) > 1
    · rw [decide_eq_true h9, if_pos rfl, if_pos h9]
    · rw [decide_eq_false h9, if_neg (by decide), if_neg h9]
      have e7' : wrap64 (7 * (m.length : Int)) = 7 * m.length := by unfold wrap64; omega
      have e7 : 0 ≤ wrap64 (7 * (m.length : Int)) := by rw [e7']; omega
      rw [if_pos e7]
      obtain ⟨e1, e2⟩ := or_shift (v := v) (c := c) (i := m.length) hv (by omega) (by omega) (fun h => by omega)
      rw [e1, Int.toNat_natCast]
      by_cases h128 : (c : Int) < 128
      · rw [if_pos h128, if_pos h128]
        by_cases hz : (c : Int) = 0
        · rw [if_pos hz]
          by_cases hm : (m.length : Int) > 0
          · rw [if_pos hm, if_pos ⟨hz, by omega⟩]
          · rw [if_neg hm, if_neg (by omega), zag_bits _ e2, w1 (by omega) (by omega)]
        · rw [if_neg hz, if_neg (by omega), zag_bits _ e2, w1 (by omega) (by omega)]
      · rw [if_neg h128, if_neg h128, w1 (by omega) (by omega)]
        have hv' : v + c % 128 * 128 ^ m.length < 128 ^ (m.length + 1) := by
          have h4 : c % 128 ≤ 127 := by omega
          have h5 : c % 128 * 128 ^ m.length ≤ 127 * 128 ^ m.length := Nat.mul_le_mul_right _ h4
          rw [Nat.pow_succ]
          omega
        have := take_l0 l (m ++ [(c : Int)]) (v + c % 128 * 128 ^ m.length) k (fun x hx => hb x (List.mem_cons_of_mem _ hx)) (by simp; omega) (by simpa using hv') (by omega)
        simp only [List.append_assoc, List.cons_append, List.nil_append, List.length_append, List.length_cons, List.length_nil] at this ⊢
        have e : ((m.length + (0 + 1) : Nat) : Int) = (m.length : Int) + 1 := by omega
        rw [e] at this
        exact this
/-- What take answers. -/
def takeOf (l : List Int) : Int × Int := tk 0 0 (l.take 10)
theorem take_comes {l : List Int} (hb : Bytes l) (hl : l.length ≤ 140737488355328) : ∀ k, 21 ≤ k → wire_take.f k l = some (takeOf l) := by
  intro k hk
  have hm : mn (l.length : Int) 10 = ((min l.length 10 : Nat) : Int) := by unfold mn; split <;> omega
  unfold wire_take.f
  rw [hm, if_pos (by omega), if_pos (by omega), Int.toNat_natCast]
  have e : l.take (min l.length 10) = l.take 10 := by
    by_cases h : l.length ≤ 10
    · rw [Nat.min_eq_left h, List.take_of_length_le (Nat.le_refl _), List.take_of_length_le h]
    · rw [Nat.min_eq_right (by omega)]
  rw [e]
  have := take_l0 (l.take 10) [] 0 k (hb.take 10) (by simp; omega) (by simp) (by simp; omega)
  simp only [List.nil_append, List.length_nil] at this
  rw [show ((0 : Nat) : Int) = 0 from rfl] at this
  exact this
theorem tk_enc : ∀ (n : Nat) (u : Nat), u ≤ n → ∀ (i v : Nat) (r : List Int), u * 128 ^ i < 18446744073709551616 → (0 < i → 0 < u) → i ≤ 9 → tk i v (enc u ++ r) = (zag (v + u * 128 ^ i), (i : Int) + (enc u).length) := by
  intro n
  induction n with
  | zero =>
    intro u hu i v r hlt hpos hi
    obtain rfl : u = 0 := by omega
    have hi0 : i = 0 := by rcases Nat.eq_zero_or_pos i with h | h; exact h; exact absurd (hpos h) (by omega)
    subst hi0
    rw [enc_small (by omega)]
    simp [tk]
  | succ n ih =>
    intro u hu i v r hlt hpos hi
    have h9 : i = 9 → u ≤ 1 := by
      intro h
      subst h
      have e9 : (128 : Nat) ^ 9 = 9223372036854775808 := by decide
      rw [e9] at hlt
      omega
    by_cases h : u < 128
    · rw [enc_small h]
      simp only [tk, List.cons_append]
      rw [if_neg (by omega), if_pos (by omega)]
      have hz : ¬ ((u : Int) = 0 ∧ 0 < i) := fun q => by have := hpos q.2; omega
      rw [if_neg hz, Int.toNat_natCast, Nat.mod_eq_of_lt h]
      rfl
    · rw [enc_big (by omega)]
      simp only [tk, List.cons_append]
      have hi9 : i ≠ 9 := fun q => by have := h9 q; omega
      rw [if_neg (by omega), if_neg (by omega), Int.toNat_natCast]
      have e1 : (u % 128 + 128) % 128 = u % 128 := by omega
      have hle : u / 128 * 128 ^ (i + 1) ≤ u * 128 ^ i := by
        rw [Nat.pow_succ, Nat.mul_comm (128 ^ i) 128, ← Nat.mul_assoc]
        exact Nat.mul_le_mul_right _ (Nat.div_mul_le_self u 128)
      rw [e1, ih (u / 128) (by omega) (i + 1) _ r (by omega) (fun _ => by omega) (by omega)]
      have e2 : v + u % 128 * 128 ^ i + u / 128 * 128 ^ (i + 1) = v + u * 128 ^ i := by
        rw [Nat.pow_succ, Nat.mul_comm (128 ^ i) 128, ← Nat.mul_assoc, Nat.add_assoc, ← Nat.add_mul]
        congr 2
        omega
      rw [e2, List.length_cons]
      congr 1
      omega
theorem take_num {n : Int} (hn : I64 n) (r : List Int) : takeOf (num n ++ r) = (n, ((num n).length : Int)) := by
  unfold takeOf
  have hle := num_le hn
  rw [List.take_append, List.take_of_length_le hle]
  have := tk_enc _ (zig n) (Nat.le_refl _) 0 0 (r.take (10 - (num n).length)) (by simpa using zig_lt hn) (fun h => absurd h (by decide)) (by decide)
  unfold num at this ⊢
  rw [this]
  simp [zag_zig]
theorem tk_inv : ∀ (l : List Int) (i v : Nat), Bytes l → i + l.length ≤ 10 → v < 128 ^ i → (tk i v l).2 ≠ 0 → ∃ u r, l = enc u ++ r ∧ tk i v l = (zag (v + u * 128 ^ i), (i : Int) + (enc u).length) ∧ (0 < i → 0 < u) ∧ v + u * 128 ^ i < 18446744073709551616
  | [], i, v, hb, hl, hv, h => by simp [tk] at h
  | c :: l, i, v, hb, hl, hv, h => by
    have hc := hb c List.mem_cons_self
    rw [List.length_cons] at hl
    obtain ⟨c, rfl⟩ := Int.eq_ofNat_of_zero_le hc.1
    simp only [tk] at h ⊢
    by_cases h9 : i = 9 ∧ (c : Int) > 1
    · rw [if_pos h9] at h
      simp at h
    · rw [if_neg h9] at h ⊢
      obtain ⟨_, hlt⟩ := or_shift (v := v) (c := c) (i := i) hv (by omega) (by omega) (fun q => by omega)
      by_cases h128 : (c : Int) < 128
      · rw [if_pos h128] at h ⊢
        by_cases hz : (c : Int) = 0 ∧ 0 < i
        · rw [if_pos hz] at h
          simp at h
        · rw [if_neg hz]
          rw [Int.toNat_natCast, Nat.mod_eq_of_lt (by omega)]
          rw [Nat.mod_eq_of_lt (by omega)] at hlt
          exact ⟨c, l, by rw [enc_small (by omega)]; rfl, by rw [enc_small (by omega)]; rfl, fun q => by omega, hlt⟩
      · rw [if_neg h128, Int.toNat_natCast] at h ⊢
        have hv' : v + c % 128 * 128 ^ i < 128 ^ (i + 1) := by
          have h4 : c % 128 ≤ 127 := by omega
          have h5 : c % 128 * 128 ^ i ≤ 127 * 128 ^ i := Nat.mul_le_mul_right _ h4
          rw [Nat.pow_succ]
          omega
        obtain ⟨u, r, h1, h2, h3, h4⟩ := tk_inv l (i + 1) _ (fun x hx => hb x (List.mem_cons_of_mem _ hx)) (by omega) hv' h
        have hu := h3 (by omega)
        have e0 : 128 ≤ 128 * u + c % 128 := by omega
        have e1 : (128 * u + c % 128) / 128 = u := by omega
        have e2 : (128 * u + c % 128) % 128 + 128 = c := by omega
        have e3 : v + (128 * u + c % 128) * 128 ^ i = v + c % 128 * 128 ^ i + u * 128 ^ (i + 1) := by
          rw [Nat.pow_succ, Nat.add_mul, Nat.mul_comm (128 ^ i) 128, ← Nat.mul_assoc, Nat.mul_comm u 128]
          omega
        refine ⟨128 * u + c % 128, r, ?_, ?_, fun _ => by omega, by rw [e3]; exact h4⟩
        · rw [enc_big e0, e1, e2, h1]
          rfl
        · rw [h2, enc_big e0, e1, e3, List.length_cons]
          congr 1
          omega
theorem take_inv {l : List Int} (hb : Bytes l) (h : (takeOf l).2 ≠ 0) : ∃ n r, I64 n ∧ l = num n ++ r ∧ takeOf l = (n, ((num n).length : Int)) := by
  unfold takeOf at h
  obtain ⟨u, r, h1, h2, _, h4⟩ := tk_inv (l.take 10) 0 0 (hb.take 10) (by simp; omega) (by simp) h
  simp only [Nat.pow_zero, Nat.mul_one, Nat.zero_add] at h2 h4
  refine ⟨zag u, r ++ l.drop 10, zag_i64 h4, ?_, ?_⟩
  · unfold num
    rw [zig_zag, ← List.append_assoc, ← h1, List.take_append_drop]
  · unfold takeOf num
    rw [zig_zag, h2]
    simp
end Go.Proofs.Ytbphmpncajfaiaa.M
/- Plain: Takes, TakeRow, Take and Ints. -/
namespace Go.Proofs.Ytbphmpncajfaiaa.M
open Go.RowKit Go.Proofs.Ytbphmpncajfaiaa.Py Go.Proofs.YtbphmpncajfaiaaW.PrintWords
set_option linter.unusedVariables false
set_option linter.unusedSimpArgs false
theorem takes_l0 (cnt : Nat) (hcnt : cnt ≤ 4096) : ∀ (l acc : List Int) (r : List Int) (i : Nat) (k : Nat), (∀ x ∈ l, I64 x) → i + l.length = cnt → Bytes r → r.length ≤ 140737488300000 → acc.length ≤ 4096 → acc.length + l.length ≤ 4096 → l.length + 22 ≤ k →
    wire_Takes.l0 k (nums l ++ r) acc (cnt : Int) (i : Int) = some (acc ++ l, r, none)
  | [], acc, r, i, k, hI, hi, hr, hl, ha, ha', hk => by
    obtain ⟨k, rfl⟩ : ∃ j, k = j + 1 := ⟨k - 1, by omega⟩
    simp only [wire_Takes.l0]
    rw [if_neg (by simp at hi; omega)]
    have e : nums [] ++ r = r := rfl
    rw [e, clone_f (by omega)]
    simp
  | n :: l, acc, r, i, k, hI, hi, hr, hl, ha, ha', hk => by
    have hn := hI n List.mem_cons_self
    have hI' : ∀ x ∈ l, I64 x := fun x hx => hI x (List.mem_cons_of_mem _ hx)
    rw [List.length_cons] at hi hk ha'
    have hle := num_le hn
    have hp : 0 < (num n).length := enc_pos _
    have hnl := nums_len hI'
    obtain ⟨k, rfl⟩ : ∃ j, k = j + 1 := ⟨k - 1, by omega⟩
    have e : nums (n :: l) ++ r = num n ++ (nums l ++ r) := by simp [nums]
    simp only [wire_Takes.l0]
    rw [if_pos (by omega), e, take_comes ((num_bytes n).append ((nums_bytes l).append hr)) (by simp; omega) k (by omega), take_num hn]
    simp only [Option.bind_some]
    rw [if_neg (by omega), if_pos (by omega), if_pos (by omega), if_pos (by simp; omega), Int.toNat_natCast, List.drop_left, w1 (by omega) (by omega)]
    have := takes_l0 cnt hcnt l (acc ++ [n]) r (i + 1) k hI' (by omega) hr hl (by simp; omega) (by simp; omega) (by omega)
    have e' : ((i + 1 : Nat) : Int) = (i : Int) + 1 := by omega
    rw [e'] at this
    rw [this, List.append_assoc]
    rfl
theorem takes_comes {l r : List Int} (hI : ∀ x ∈ l, I64 x) (hl : l.length ≤ 4096) (hr : Bytes r) (hrl : r.length ≤ 140737488300000) : Comes (fun k => wire_Takes.f k (nums l ++ r) (l.length : Int)) (l, r, none) := by
  refine Comes.of (l.length + 23) (fun k hk => ?_)
  obtain ⟨k, rfl⟩ : ∃ j, k = j + 1 := ⟨k - 1, by omega⟩
  show wire_Takes.f (k + 1) (nums l ++ r) (l.length : Int) = _
  unfold wire_Takes.f
  rw [if_neg (by omega), decide_eq_false (by omega)]
  simp only [wire_Takes.j0]
  rw [if_neg (by decide)]
  have := takes_l0 l.length hl l [] r 0 k hI (by omega) hr hrl (by simp) (by simpa using hl) (by omega)
  exact this
theorem takerow_comes {row more : List Int} (hb : Bytes (row ++ more)) (hl : row.length + more.length ≤ 140737488300000) : Comes (fun k => wire_TakeRow.f k (num (row.length : Int) ++ row ++ more)) (row, more, none) := by
  have hn : I64 (row.length : Int) := by unfold I64; omega
  have hle := num_le hn
  have hp : 0 < (num (row.length : Int)).length := enc_pos _
  refine Comes.of 22 (fun k hk => ?_)
  obtain ⟨k, rfl⟩ : ∃ j, k = j + 1 := ⟨k - 1, by omega⟩
  show wire_TakeRow.f (k + 1) (num (row.length : Int) ++ row ++ more) = _
  unfold wire_TakeRow.f
  rw [List.append_assoc, take_comes ((num_bytes _).append hb) (by simp; omega) (k + 1) (by omega), take_num hn]
  simp only [Option.bind_some]
  have e1 : wrap64 (((num (row.length : Int) ++ (row ++ more)).length : Int) - ((num (row.length : Int)).length : Int)) = row.length + more.length := by
    simp only [List.length_append]
    unfold wrap64
    omega
  have e2 : wrap64 (((num (row.length : Int)).length : Int) + (row.length : Int)) = ((num (row.length : Int)).length + row.length : Nat) := by unfold wrap64; omega
  rw [if_neg (by omega), if_neg (by omega), e1, decide_eq_false (by omega)]
  simp only [wire_TakeRow.j0]
  rw [if_neg (by decide), if_pos (by omega), e2, if_pos (by omega), if_pos (by simp only [List.length_append]; omega), Int.toNat_natCast, Int.toNat_natCast]
  have e3 : ((num (row.length : Int) ++ (row ++ more)).take ((num (row.length : Int)).length + row.length)).drop (num (row.length : Int)).length = row := by
    rw [← List.append_assoc, List.take_left' (by simp), List.drop_left]
  have e4 : (num (row.length : Int) ++ (row ++ more)).drop ((num (row.length : Int)).length + row.length) = more := by
    rw [← List.append_assoc, List.drop_left' (by simp)]
  rw [e3, e4, clone_f (by omega), clone_f (by omega)]
  simp only [Option.bind_some]
  rw [if_pos (by omega)]
theorem ints_l0 : ∀ (l m : List Int) (k : Nat), (m ++ l).length ≤ 140737488300000 → l.length + 1 ≤ k → palimpsestnum_Ints.l0 k (m ++ l) (m ++ l) ((m ++ l).length : Int) (m.length : Int) = some true
  | [], m, k, hl, hk => by
    obtain ⟨k, rfl⟩ : ∃ j, k = j + 1 := ⟨k - 1, by omega⟩
    simp only [palimpsestnum_Ints.l0]
    rw [if_neg (by simp)]
  | n :: l, m, k, hl, hk => by
    have hl' := hl
    rw [List.length_append, List.length_cons] at hl'
    rw [List.length_cons] at hk
    obtain ⟨k, rfl⟩ : ∃ j, k = j + 1 := ⟨k - 1, by omega⟩
    simp only [palimpsestnum_Ints.l0]
    rw [if_pos (by simp; omega), if_pos (by omega), if_pos (by simp; omega), if_pos (by simp; omega), if_pos trivial, w1 (by omega) (by omega)]
    have := ints_l0 l (m ++ [n]) k (by simp; omega) (by omega)
    simp only [List.append_assoc, List.cons_append, List.nil_append, List.length_append, List.length_cons, List.length_nil] at this ⊢
    have e : ((m.length + (0 + 1) : Nat) : Int) = (m.length : Int) + 1 := by omega
    rw [e] at this
    exact this
theorem ints_comes {l : List Int} (hl : l.length ≤ 140737488300000) : Comes (fun k => palimpsestnum_Ints.f k l l) true := by
  refine Comes.of (l.length + 1) (fun k hk => ?_)
  show palimpsestnum_Ints.f k l l = _
  unfold palimpsestnum_Ints.f
  rw [if_pos rfl]
  have := ints_l0 l [] k (by simpa using hl) hk
  simp only [List.nil_append, List.length_nil] at this
  exact this
/-- Take: none, or a number whose bytes they are. -/
theorem take1_comes {l : List Int} (hb : Bytes l) (hl : l.length ≤ 140737488300000) : Comes (fun k => wire_Take.f k l) (0, [], some 4) ∨ ∃ n r, I64 n ∧ l = num n ++ r ∧ Comes (fun k => wire_Take.f k l) (n, r, none) := by
  by_cases h : (takeOf l).2 = 0
  · left
    refine Comes.of 21 (fun k hk => ?_)
    show wire_Take.f k l = _
    unfold wire_Take.f
    rw [take_comes hb (by omega) k hk]
    simp only [Option.bind_some]
    rw [if_pos h]
  · right
    obtain ⟨n, r, hn, hx, ht⟩ := take_inv hb h
    refine ⟨n, r, hn, hx, Comes.of 21 (fun k hk => ?_)⟩
    have hp : 0 < (num n).length := enc_pos _
    have hlr : (num n).length + r.length = l.length := by rw [hx]; simp
    show wire_Take.f k l = _
    unfold wire_Take.f
    rw [take_comes hb (by omega) k hk, ht]
    simp only [Option.bind_some]
    rw [if_neg (by omega), if_pos (by omega), if_pos (by omega), Int.toNat_natCast]
    have e : l.drop (num n).length = r := by rw [hx, List.drop_left]
    rw [e, clone_f (by omega)]
    rfl
end Go.Proofs.Ytbphmpncajfaiaa.M
/- Plain: the document's numbers and rows. -/
namespace Go.Proofs.Ytbphmpncajfaiaa.M
open Go.RowKit Go.Proofs.Ytbphmpncajfaiaa.Py Go.Proofs.YtbphmpncajfaiaaW.PrintWords
set_option linter.unusedVariables false
set_option linter.unusedSimpArgs false
theorem wu (x : Int) (h0 : 0 ≤ x) (h : x < 18446744073709551616) : IntKind.u64.wrap x = x := by
  have e : IntKind.u64.wrap x = x % 18446744073709551616 := by simp [IntKind.wrap, IntKind.bits, IntKind.signed]
  rw [e]
  omega
theorem number_l0 : ∀ (n u : Nat), u ≤ n → u < 18446744073709551616 → ∀ (acc : List Int) (k : Nat), acc.length + (enc u).length ≤ 140737488355328 → palimpsestref02_Number.l0 ((enc u).length + k) (u : Int) acc = some (acc ++ enc u) := by
  intro n
  induction n with
  | zero =>
    intro u hu hlt acc k hl
    rw [enc_small (show u < 128 by omega)] at hl ⊢
    rw [show [(u : Int)].length + k = k + 1 by simp; omega]
    simp only [palimpsestref02_Number.l0]
    rw [Int.tdiv_eq_ediv_of_nonneg (by omega), Int.tmod_eq_emod_of_nonneg (by omega), wu _ (by omega) (by omega), if_pos (by omega), if_pos (by simp at hl; omega)]
    have e : (u : Int) % 128 % 256 = u := by omega
    rw [e]
  | succ n ih =>
    intro u hu hlt acc k hl
    by_cases h : u < 128
    · rw [enc_small h] at hl ⊢
      rw [show [(u : Int)].length + k = k + 1 by simp; omega]
      simp only [palimpsestref02_Number.l0]
      rw [Int.tdiv_eq_ediv_of_nonneg (by omega), Int.tmod_eq_emod_of_nonneg (by omega), wu _ (by omega) (by omega), if_pos (by omega), if_pos (by simp at hl; omega)]
      have e : (u : Int) % 128 % 256 = u := by omega
      rw [e]
    · rw [enc_big (by omega)] at hl ⊢
      rw [List.length_cons] at hl ⊢
      rw [show (enc (u / 128)).length + 1 + k = ((enc (u / 128)).length + k) + 1 by omega]
      simp only [palimpsestref02_Number.l0]
      rw [Int.tdiv_eq_ediv_of_nonneg (by omega), Int.tmod_eq_emod_of_nonneg (by omega), wu _ (by omega) (by omega), if_neg (by omega), if_pos (by omega)]
      have e1 : ((u : Int) % 128 % 256 + 128) % 256 = ((u % 128 + 128 : Nat) : Int) := by omega
      have e2 : (u : Int) / 128 = ((u / 128 : Nat) : Int) := by omega
      rw [e1, e2, ih (u / 128) (by omega) (by omega) _ k (by simp; omega), List.append_assoc]
      rfl
theorem number_f {n : Int} (h : I64 n) : ∀ k, 11 ≤ k → palimpsestref02_Number.f k n = some (num n) := by
  intro k hk
  have hlt := zig_lt h
  have hle := num_le h
  unfold num at hle
  have key : palimpsestref02_Number.j0 k ((zig n : Nat) : Int) = some (num n) := by
    obtain ⟨k, rfl⟩ : ∃ j, k = ((enc (zig n)).length + j) + 1 := ⟨k - 1 - (enc (zig n)).length, by omega⟩
    simp only [palimpsestref02_Number.j0]
    have := number_l0 _ (zig n) (Nat.le_refl _) hlt [] k (by simp; omega)
    rw [this]
    rfl
  unfold I64 at h
  unfold palimpsestref02_Number.f
  by_cases h0 : n < 0
  · rw [if_pos h0]
    have e1 : wrap64 (n + 1) = n + 1 := by unfold wrap64; omega
    have e2 : wrap64 (-(n + 1)) = -(n + 1) := by unfold wrap64; omega
    rw [e1, e2, wu (-(n + 1)) (by omega) (by omega), wu (-(n + 1) * 2) (by omega) (by omega), wu (-(n + 1) * 2 + 1) (by omega) (by omega)]
    have e : -(n + 1) * 2 + 1 = ((zig n : Nat) : Int) := by unfold zig; rw [if_neg (by omega)]; omega
    rw [e]
    exact key
  · rw [if_neg h0, wu n (by omega) (by omega), wu _ (by omega) (by omega)]
    have e : n * 2 = ((zig n : Nat) : Int) := by unfold zig; rw [if_pos (by omega)]; omega
    rw [e]
    exact key
theorem rput_l0 : ∀ (l m acc : List Int) (k : Nat), (∀ x ∈ l, I64 x) → acc.length + 10 * l.length ≤ 140737488355000 → (m ++ l).length ≤ 140737488355000 → l.length + 13 ≤ k → palimpsestref02_Put.l0 k (m ++ l) acc (m.length : Int) = some (acc ++ nums l)
  | [], m, acc, k, hI, ha, hl, hk => by
    obtain ⟨k, rfl⟩ : ∃ j, k = j + 1 := ⟨k - 1, by omega⟩
    simp only [palimpsestref02_Put.l0]
    rw [if_neg (by simp)]
    simp [nums]
  | n :: l, m, acc, k, hI, ha, hl, hk => by
    have hn := hI n List.mem_cons_self
    have hle := num_le hn
    rw [List.length_cons] at ha hk
    have hl' := hl
    rw [List.length_append, List.length_cons] at hl'
    obtain ⟨k, rfl⟩ : ∃ j, k = j + 1 := ⟨k - 1, by omega⟩
    simp only [palimpsestref02_Put.l0]
    rw [if_pos (by simp; omega), if_pos (by omega), rd_cons, number_f hn k (by omega)]
    simp only [Option.bind_some]
    rw [if_pos (by omega), w1 (by omega) (by omega)]
    have := rput_l0 l (m ++ [n]) (acc ++ num n) k (fun x hx => hI x (List.mem_cons_of_mem _ hx)) (by rw [List.length_append]; omega) (by simp; omega) (by omega)
    simp only [List.append_assoc, List.cons_append, List.nil_append, List.length_append, List.length_cons, List.length_nil] at this ⊢
    have e : ((m.length + (0 + 1) : Nat) : Int) = (m.length : Int) + 1 := by omega
    rw [e] at this
    rw [this]
    simp [nums]
theorem rput_comes {acc l : List Int} (hI : ∀ x ∈ l, I64 x) (ha : acc.length + 10 * l.length ≤ 140737488355000) (hl : l.length ≤ 140737488355000) : Comes (fun k => palimpsestref02_Put.f k acc l) (acc ++ nums l) := by
  refine Comes.of (l.length + 13) (fun k hk => ?_)
  show palimpsestref02_Put.f k acc l = _
  unfold palimpsestref02_Put.f
  simp only [Option.bind_some, List.nil_append, List.length_nil]
  rw [if_pos (by omega)]
  have := rput_l0 l [] acc k hI ha (by simpa using hl) hk
  simp only [List.nil_append, List.length_nil] at this
  exact this
theorem rrow_comes {row : List Int} (hl : 10 + row.length ≤ 140737488355000) : Comes (fun k => palimpsestref02_Row.f k row) (num (row.length : Int) ++ row) := by
  refine Comes.of 11 (fun k hk => ?_)
  show palimpsestref02_Row.f k row = _
  have hI : I64 (row.length : Int) := by unfold I64; omega
  have := num_le hI
  unfold palimpsestref02_Row.f
  rw [number_f hI k hk]
  simp only [Option.bind_some]
  rw [if_pos (by omega)]
end Go.Proofs.Ytbphmpncajfaiaa.M
/- Cells as bytes and back: pure. -/
namespace Go.Proofs.Ytbphmpncajfaiaa.M
open Go.RowKit Go.Proofs.Ytbphmpncajfaiaa.K Go.Proofs.Ytbphmpncajfaiaa.Py Go.Proofs.YtbphmpncajfaiaaW.PrintWords Go.Proofs.YtbphmpncajfaiaaW.PrintLast Go.Proofs.YtbphmpncajfaiaaW.PrintMore
set_option linter.unusedVariables false
set_option linter.unusedSimpArgs false
/-- The first j bytes as a number, the highest first, as the code has it. -/
def word (seg : List Int) (j : Nat) : Int := (seg.take j).foldl (fun u v => bits .or .u64 (IntKind.u64.wrap (u * 256)) (IntKind.u64.wrap v)) 0
def segOf (rs : List Int) (i : Nat) : List Int := (rs.take (8 * i + 8)).drop (8 * i)
def cellsOf (rs : List Int) : List Int := (List.range 60).map (fun i => wrap64 (word (segOf rs i) 8))
theorem word_succ (seg : List Int) (j : Nat) (v : Int) (h : seg[j]? = some v) : word seg (j + 1) = bits .or .u64 (IntKind.u64.wrap (word seg j * 256)) (IntKind.u64.wrap v) := by
  unfold word
  rw [List.take_add_one, h, List.foldl_append]
  rfl
theorem or_step {u v : Int} (h0 : 0 ≤ u) (h1 : u < 72057594037927936) (h2 : 0 ≤ v) (h3 : v < 256) : bits .or .u64 (IntKind.u64.wrap (u * 256)) (IntKind.u64.wrap v) = u * 256 + v := by
  rw [wu _ (by omega) (by omega), wu _ (by omega) (by omega)]
  obtain ⟨a, rfl⟩ := Int.eq_ofNat_of_zero_le h0
  obtain ⟨b, rfl⟩ := Int.eq_ofNat_of_zero_le h2
  rw [show ((a : Int) * 256) = ((2 ^ 8 * a : Nat) : Int) by omega, (bits_nat .u64 64 (by decide) (fun n h0 h1 => by rw [IntKind.wrap_u64]; omega) (2 ^ 8 * a) b (by omega) (by omega)).2, ← Nat.two_pow_add_eq_or_of_lt (by omega)]
  omega
theorem word8 (a b c d e f g h : Int) (ha : 0 ≤ a ∧ a < 256) (hb : 0 ≤ b ∧ b < 256) (hc : 0 ≤ c ∧ c < 256) (hd : 0 ≤ d ∧ d < 256) (he : 0 ≤ e ∧ e < 256) (hf : 0 ≤ f ∧ f < 256) (hg : 0 ≤ g ∧ g < 256) (hh : 0 ≤ h ∧ h < 256) :
    word [a, b, c, d, e, f, g, h] 8 = ((((((a * 256 + b) * 256 + c) * 256 + d) * 256 + e) * 256 + f) * 256 + g) * 256 + h := by
  unfold word
  rw [List.take_of_length_le (by simp)]
  simp only [List.foldl_cons, List.foldl_nil]
  rw [or_step (u := 0) (by omega) (by omega) ha.1 ha.2, Int.zero_mul, Int.zero_add]
  rw [or_step (u := a) (by omega) (by omega) hb.1 hb.2]
  rw [or_step (v := c) (by omega) (by omega) hc.1 hc.2]
  rw [or_step (v := d) (by omega) (by omega) hd.1 hd.2]
  rw [or_step (v := e) (by omega) (by omega) he.1 he.2]
  rw [or_step (v := f) (by omega) (by omega) hf.1 hf.2]
  rw [or_step (v := g) (by omega) (by omega) hg.1 hg.2]
  rw [or_step (v := h) (by omega) (by omega) hh.1 hh.2]
theorem b0 (n : Int) : byteAt n 0 = n % 18446744073709551616 / 72057594037927936 % 256 := by unfold byteAt; rw [show (2 : Int) ^ (56 - 8 * 0) = 72057594037927936 by decide]
theorem b1 (n : Int) : byteAt n 1 = n % 18446744073709551616 / 281474976710656 % 256 := by unfold byteAt; rw [show (2 : Int) ^ (56 - 8 * 1) = 281474976710656 by decide]
theorem b2 (n : Int) : byteAt n 2 = n % 18446744073709551616 / 1099511627776 % 256 := by unfold byteAt; rw [show (2 : Int) ^ (56 - 8 * 2) = 1099511627776 by decide]
theorem b3 (n : Int) : byteAt n 3 = n % 18446744073709551616 / 4294967296 % 256 := by unfold byteAt; rw [show (2 : Int) ^ (56 - 8 * 3) = 4294967296 by decide]
theorem b4 (n : Int) : byteAt n 4 = n % 18446744073709551616 / 16777216 % 256 := by unfold byteAt; rw [show (2 : Int) ^ (56 - 8 * 4) = 16777216 by decide]
theorem b5 (n : Int) : byteAt n 5 = n % 18446744073709551616 / 65536 % 256 := by unfold byteAt; rw [show (2 : Int) ^ (56 - 8 * 5) = 65536 by decide]
theorem b6 (n : Int) : byteAt n 6 = n % 18446744073709551616 / 256 % 256 := by unfold byteAt; rw [show (2 : Int) ^ (56 - 8 * 6) = 256 by decide]
theorem b7 (n : Int) : byteAt n 7 = n % 18446744073709551616 % 256 := by unfold byteAt; rw [show (2 : Int) ^ (56 - 8 * 7) = 1 by decide, Int.ediv_one]
theorem eight_8 (n : Int) : eight n 8 = [byteAt n 0, byteAt n 1, byteAt n 2, byteAt n 3, byteAt n 4, byteAt n 5, byteAt n 6, byteAt n 7] := rfl
theorem byteAt_range (n : Int) (k : Nat) : 0 ≤ byteAt n k ∧ byteAt n k < 256 := ⟨Int.emod_nonneg _ (by decide), Int.emod_lt_of_pos _ (by decide)⟩
theorem eight_bytes (n : Int) (k : Nat) : Bytes (eight n k) := fun x hx => by
  simp only [eight, List.mem_map] at hx
  obtain ⟨i, _, rfl⟩ := hx
  exact byteAt_range n i
theorem word_eight (n : Int) : word (eight n 8) 8 = n % 18446744073709551616 := by
  rw [eight_8, word8 _ _ _ _ _ _ _ _ (byteAt_range n 0) (byteAt_range n 1) (byteAt_range n 2) (byteAt_range n 3) (byteAt_range n 4) (byteAt_range n 5) (byteAt_range n 6) (byteAt_range n 7), b0, b1, b2, b3, b4, b5, b6, b7]
  omega
theorem wrap_eight {n : Int} (h : I64 n) : wrap64 (word (eight n 8) 8) = n := by
  rw [word_eight]
  unfold I64 at h
  unfold wrap64
  omega
theorem eight_word {seg : List Int} (hl : seg.length = 8) (hb : Bytes seg) : eight (wrap64 (word seg 8)) 8 = seg := by
  match seg, hl, hb with
  | [a, b, c, d, e, f, g, h], _, hb =>
    have ha := hb a (by simp)
    have hb' := hb b (by simp)
    have hc := hb c (by simp)
    have hd := hb d (by simp)
    have he := hb e (by simp)
    have hf := hb f (by simp)
    have hg := hb g (by simp)
    have hh := hb h (by simp)
    rw [word8 a b c d e f g h ha hb' hc hd he hf hg hh, eight_8, b0, b1, b2, b3, b4, b5, b6, b7]
    have hw : ∀ x : Int, wrap64 x % 18446744073709551616 = x % 18446744073709551616 := fun x => by unfold wrap64; omega
    rw [hw]
    clear hw hb
    have hx : (((((((a * 256 + b) * 256 + c) * 256 + d) * 256 + e) * 256 + f) * 256 + g) * 256 + h) % 18446744073709551616 = ((((((a * 256 + b) * 256 + c) * 256 + d) * 256 + e) * 256 + f) * 256 + g) * 256 + h := by omega
    rw [hx]
    simp only [List.cons.injEq, and_true]
    refine ⟨?_, ?_, ?_, ?_, ?_, ?_, ?_, ?_⟩ <;> omega
theorem segOf_len {rs : List Int} {i : Nat} (h : 8 * i + 8 ≤ rs.length) : (segOf rs i).length = 8 := by
  unfold segOf
  rw [List.length_drop, List.length_take]
  omega
theorem segOf_bytes {rs : List Int} (h : Bytes rs) (i : Nat) : Bytes (segOf rs i) := (h.take _).drop _
theorem seg_flat : ∀ (l : List Int) (i : Nat) (x : Int), l[i]? = some x → segOf (l.flatMap (fun n => eight n 8)) i = eight x 8
  | [], i, x, h => by simp at h
  | y :: l, 0, x, h => by
    have : y = x := by simpa using h
    subst this
    unfold segOf
    rw [List.flatMap_cons, List.take_append, eight_len]
    simp [List.take_of_length_le, eight_len]
  | y :: l, i + 1, x, h => by
    have ih := seg_flat l i x (by simpa using h)
    unfold segOf at ih ⊢
    rw [List.flatMap_cons, List.take_append, List.drop_append, List.take_of_length_le (by rw [eight_len]; omega), List.drop_of_length_le (by rw [eight_len]; omega), eight_len, List.nil_append, show 8 * (i + 1) + 8 - 8 = 8 * i + 8 by omega, show 8 * (i + 1) - 8 = 8 * i by omega]
    exact ih
theorem eights_all {l : List Int} (hl : l.length = 60) : eights l 60 = l.flatMap (fun n => eight n 8) := by
  unfold eights
  rw [List.take_of_length_le (by omega)]
theorem eights_bytes (l : List Int) (x : Nat) : Bytes (eights l x) := fun y hy => by
  simp only [eights, List.mem_flatMap] at hy
  obtain ⟨n, _, h⟩ := hy
  exact eight_bytes n 8 y h
theorem flat_len : ∀ l : List Int, (l.flatMap (fun n => eight n 8)).length = 8 * l.length
  | [] => rfl
  | x :: l => by rw [List.flatMap_cons, List.length_append, flat_len l, eight_len, List.length_cons]; omega
theorem eights_480 {l : List Int} (hl : l.length = 60) : (eights l 60).length = 480 := by
  rw [eights_all hl, flat_len]
  omega
theorem cells_len (rs : List Int) : (cellsOf rs).length = 60 := by simp [cellsOf]
theorem cells_eights {l : List Int} (hl : l.length = 60) (hI : ∀ x ∈ l, I64 x) : cellsOf (eights l 60) = l := by
  apply List.ext_getElem (by rw [cells_len, hl])
  intro i h1 h2
  simp only [cellsOf, List.getElem_map, List.getElem_range]
  rw [eights_all hl, seg_flat l i l[i] (List.getElem?_eq_getElem h2), wrap_eight (hI _ (List.getElem_mem h2))]
theorem cells_i64 (rs : List Int) : ∀ x ∈ cellsOf rs, I64 x := fun x hx => by
  simp only [cellsOf, List.mem_map] at hx
  obtain ⟨i, _, rfl⟩ := hx
  unfold I64 wrap64
  omega
theorem chunks : ∀ (m : Nat) (rs : List Int), 8 * m ≤ rs.length → (List.range m).flatMap (fun i => segOf rs i) = rs.take (8 * m)
  | 0, rs, _ => rfl
  | m + 1, rs, h => by
    rw [List.range_succ, List.flatMap_append, chunks m rs (by omega)]
    simp only [List.flatMap_cons, List.flatMap_nil, List.append_nil, segOf]
    rw [show 8 * (m + 1) = 8 * m + 8 by omega]
    have := List.take_append_drop (8 * m) (rs.take (8 * m + 8))
    rw [List.take_take, Nat.min_eq_left (by omega)] at this
    exact this
theorem eights_cells {rs : List Int} (hl : rs.length = 480) (hb : Bytes rs) : eights (cellsOf rs) 60 = rs := by
  rw [eights_all (cells_len rs), cellsOf, List.flatMap_map]
  have h := chunks 60 rs (by omega)
  rw [List.take_of_length_le (by omega)] at h
  refine Eq.trans ?_ h
  have hc : ∀ m : List Nat, (∀ i ∈ m, i < 60) → m.flatMap (fun i => eight (wrap64 (word (segOf rs i) 8)) 8) = m.flatMap (fun i => segOf rs i) := by
    intro m
    induction m with
    | nil => intro _; rfl
    | cons i m ih =>
      intro hm
      have := hm i List.mem_cons_self
      rw [List.flatMap_cons, List.flatMap_cons, ih (fun j hj => hm j (List.mem_cons_of_mem _ hj)), eight_word (segOf_len (by omega)) (segOf_bytes hb i)]
  exact hc _ (fun i hi => List.mem_range.1 hi)
/-- A page's sector. -/
def encodeOf (n : Int) (l : List Int) : List Int := (boxOf 512 (num n ++ eights l 60)).1
theorem encode_fit {n : Int} {l : List Int} (hn : I64 n) (hl : l.length = 60) : (num n ++ eights l 60).length ≤ 490 ∧ 480 < (num n ++ eights l 60).length := by
  have h1 := num_le hn
  have h2 : 0 < (num n).length := enc_pos _
  rw [List.length_append, eights_480 hl]
  omega
theorem encode_ok {n : Int} {l : List Int} (hn : I64 n) (hl : l.length = 60) : (boxOf 512 (num n ++ eights l 60)).2 = none := by
  have := (encode_fit hn hl).1
  unfold boxOf
  rw [if_neg (by omega), if_neg (by omega)]
theorem encode_box {n : Int} {l : List Int} (hn : I64 n) (hl : l.length = 60) : boxOf 512 (num n ++ eights l 60) = (encodeOf n l, none) := by
  rw [← encode_ok hn hl]
  rfl
theorem encode_len {n : Int} {l : List Int} (hn : I64 n) (hl : l.length = 60) : (encodeOf n l).length = 512 := by
  have := boxOf_len (encode_ok hn hl)
  unfold encodeOf
  omega
theorem fl_bytes (n : Int) (l : List Int) : Bytes (num n ++ eights l 60) := (num_bytes n).append (eights_bytes l 60)
theorem encode_bytes (n : Int) (l : List Int) : Bytes (encodeOf n l) := boxOf_bytes (fl_bytes n l)
theorem take_dec {l : List Int} (hb : Bytes l) (hl : l.length ≤ 140737488300000) : Comes (fun k => wire_Take.f k l) (if (takeOf l).2 = 0 then (0, [], some 4) else ((takeOf l).1, l.drop (takeOf l).2.toNat, none)) := by
  by_cases h : (takeOf l).2 = 0
  · rw [if_pos h]
    refine Comes.of 21 (fun k hk => ?_)
    show wire_Take.f k l = _
    unfold wire_Take.f
    rw [take_comes hb (by omega) k hk]
    simp only [Option.bind_some]
    rw [if_pos h]
  · rw [if_neg h]
    obtain ⟨n, r, hn, hx, ht⟩ := take_inv hb h
    refine Comes.of 21 (fun k hk => ?_)
    have hp : 0 < (num n).length := enc_pos _
    have hlr : (num n).length + r.length = l.length := by rw [hx]; simp
    show wire_Take.f k l = _
    unfold wire_Take.f
    rw [take_comes hb (by omega) k hk, ht]
    simp only [Option.bind_some]
    rw [if_neg (by omega), if_pos (by omega), if_pos (by omega), Int.toNat_natCast]
    have e : l.drop (num n).length = r := by rw [hx, List.drop_left]
    rw [e, clone_f (by omega)]
    rfl
/-- A sector's page; an error's number. -/
def decodeOf (b : List Int) : List Int × Option Int :=
  if b.length ≠ 512 then (none61, some 4)
  else if b = List.replicate 512 0 then (none61, none)
  else if (unboxOf b).2 ≠ none then (none61, some 4)
  else if (takeOf (unboxOf b).1).2 = 0 then (none61, some 4)
  else if ((unboxOf b).1.drop (takeOf (unboxOf b).1).2.toNat).length ≠ 480 then (none61, some 4)
  else ((takeOf (unboxOf b).1).1 :: cellsOf ((unboxOf b).1.drop (takeOf (unboxOf b).1).2.toNat), none)
theorem decode_err {b : List Int} (h : (decodeOf b).2 ≠ none) : decodeOf b = (none61, some 4) := by
  revert h
  unfold decodeOf
  repeat' split
  all_goals intro h
  all_goals first | rfl | exact absurd rfl h
theorem decode_page (b : List Int) : (decodeOf b).1.length = 61 := by
  unfold decodeOf
  repeat' split
  all_goals simp [none61, cells_len]
/-- The first two bytes behind the sum are not 0. -/
theorem encode_head {n : Int} {l : List Int} (hn : I64 n) (hl : l.length = 60) : rd (encodeOf n l) 4 = 1 ∧ rd (encodeOf n l) 5 ≠ 0 := by
  obtain ⟨_, _, _, _, h5⟩ := boxOf_ok (encode_ok hn hl)
  have hf := encode_fit hn hl
  have e4 : rd (encodeOf n l) 4 = (((num n ++ eights l 60).length : Int) / 256) % 256 := by unfold encodeOf; rw [h5]; rfl
  have e5 : rd (encodeOf n l) 5 = ((num n ++ eights l 60).length : Int) % 256 := by unfold encodeOf; rw [h5]; rfl
  rw [e4, e5]
  omega
theorem rd_rep (m : Nat) (i : Int) : rd (List.replicate m 0) i = 0 := by
  unfold rd
  rw [List.getD_eq_getElem?_getD, List.getElem?_replicate]
  split <;> rfl
theorem encode_nil {n : Int} {l : List Int} (hn : I64 n) (hl : l.length = 60) : encodeOf n l ≠ List.replicate 512 0 := fun h => by
  have := (encode_head hn hl).1
  rw [h, rd_rep] at this
  omega
/-- Pages come back. -/
theorem decode_encode {n : Int} {l : List Int} (hn : I64 n) (hl : l.length = 60) (hI : ∀ x ∈ l, I64 x) : decodeOf (encodeOf n l) = (n :: l, none) := by
  have hu : unboxOf (encodeOf n l) = (num n ++ eights l 60, none) := unbox_box (encode_ok hn hl)
  have ht : takeOf (num n ++ eights l 60) = (n, ((num n).length : Int)) := take_num hn _
  have hp : 0 < (num n).length := enc_pos _
  unfold decodeOf
  rw [if_neg (by rw [encode_len hn hl]; decide), if_neg (encode_nil hn hl), hu]
  simp only [ht, Int.toNat_natCast, List.drop_left]
  rw [if_neg (by decide), if_neg (by omega), if_neg (by rw [eights_480 hl]; decide), cells_eights hl hI]
/-- What is decoded is of such a form. -/
theorem decode_ok {b : List Int} (hb : Bytes b) (h : (decodeOf b).2 = none) : (decodeOf b).1 = none61 ∧ b = List.replicate 512 0 ∨ ∃ n l, I64 n ∧ l.length = 60 ∧ (∀ x ∈ l, I64 x) ∧ (decodeOf b).1 = n :: l ∧ encodeOf n l = b := by
  unfold decodeOf at h ⊢
  by_cases h1 : b.length ≠ 512
  · rw [if_pos h1] at h; cases h
  rw [if_neg h1] at h ⊢
  by_cases h2 : b = List.replicate 512 0
  · rw [if_pos h2]; exact Or.inl ⟨rfl, h2⟩
  rw [if_neg h2] at h ⊢
  by_cases h3 : (unboxOf b).2 ≠ none
  · rw [if_pos h3] at h; cases h
  rw [if_neg h3] at h ⊢
  by_cases h4 : (takeOf (unboxOf b).1).2 = 0
  · rw [if_pos h4] at h; cases h
  rw [if_neg h4] at h ⊢
  by_cases h5 : ((unboxOf b).1.drop (takeOf (unboxOf b).1).2.toNat).length ≠ 480
  · rw [if_pos h5] at h; cases h
  rw [if_neg h5] at h ⊢
  right
  have h3' : (unboxOf b).2 = none := by simpa using h3
  have hbox : boxOf 512 (unboxOf b).1 = (b, none) := by
    have hl : b.length = 512 := by omega
    revert h3'
    unfold unboxOf
    split
    · intro h; cases h
    split
    · intro h; cases h
    split
    · rename_i hh
      intro _
      rw [hl] at hh
      exact hh
    · intro h; cases h
  have hub : Bytes (unboxOf b).1 := by
    unfold unboxOf
    repeat' split
    all_goals first | exact Bytes.nil | exact (hb.take _).drop _
  generalize (unboxOf b).1 = inn at *
  obtain ⟨n, r, hn, hx, ht⟩ := take_inv hub h4
  have hd : inn.drop (takeOf inn).2.toNat = r := by rw [ht]; simp only [Int.toNat_natCast]; rw [hx, List.drop_left]
  rw [hd] at h5 ⊢
  rw [ht]
  have hr : r.length = 480 := by omega
  have hrb : Bytes r := by rw [hx] at hub; exact hub.right
  refine ⟨n, cellsOf r, hn, cells_len r, cells_i64 r, rfl, ?_⟩
  unfold encodeOf
  rw [eights_cells hr hrb, ← hx, hbox]
theorem rd_set_other (L : List Int) (i : Nat) (y : Int) (j : Int) (h : j.toNat ≠ i) : rd (L.set i y) j = rd L j := by
  unfold rd
  rw [List.getD_eq_getElem?_getD, List.getD_eq_getElem?_getD, List.getElem?_set_ne (by omega)]
/-- A page's sector with one byte changed is none. -/
theorem decode_change {n : Int} {l : List Int} (hn : I64 n) (hl : l.length = 60) {i : Nat} (hi : i < (encodeOf n l).length) {y : Int} (hy : 0 ≤ y ∧ y < 256) (hne : (encodeOf n l)[i] ≠ y) : decodeOf ((encodeOf n l).set i y) = (none61, some 4) := by
  have hu := unbox_change (fl_bytes n l) (encode_ok hn hl) (i := i) hi hy hne
  change unboxOf ((encodeOf n l).set i y) = _ at hu
  unfold decodeOf
  by_cases h2 : (encodeOf n l).set i y = List.replicate 512 0
  · exfalso
    have hh := encode_head hn hl
    by_cases h4 : i = 4
    · have h5 := rd_set_other (encodeOf n l) i y 5 (by omega)
      rw [h2, rd_rep] at h5
      exact hh.2 h5.symm
    · have h5 := rd_set_other (encodeOf n l) i y 4 (by omega)
      rw [h2, rd_rep] at h5
      omega
  · rw [List.length_set, encode_len hn hl, if_neg (by decide), if_neg h2, hu, if_pos (by decide)]
end Go.Proofs.Ytbphmpncajfaiaa.M
/- page.Decode (function 37). -/
namespace Go.Proofs.Ytbphmpncajfaiaa.K
open Go.RowKit Go.Proofs.Ytbphmpncajfaiaa.M Go.Proofs.Ytbphmpncajfaiaa.Py Go.Proofs.YtbphmpncajfaiaaW.PrintWords Go.Proofs.YtbphmpncajfaiaaW.PrintLast Go.Proofs.YtbphmpncajfaiaaW.PrintMore
set_option linter.unusedVariables false
set_option linter.unusedSimpArgs false
theorem dec_far {W w1 : World} {g base : Nat} {l xs : List Int} {v : Value} {ok : Nat → Prop} (hp : Page W g l) (h : Kd.R (Kd.int .u8) 5 W base ok v xs) (hg : W.grownBy w1 (some g)) : Kd.R (Kd.int .u8) 5 w1 base ok v xs :=
  Kd.R_grown1 h rfl hg (Kd.R_ne h hp.1 (by decide))
theorem grown_setCell (w : World) (g i : Nat) (v : Value) : w.grownBy (w.setCell ⟨g, i, none⟩ v) (some g) :=
  ⟨rfl, rfl, rfl, by simp [World.setCell], fun k hk hne => Below.heap_setCell w ⟨g, i, none⟩ v k (fun e => hne (by rw [e]))⟩
set_option maxHeartbeats 8000000 in
set_option maxRecDepth 100000 in
/-- A page. -/
theorem decode_fine (ad : Addr) (c : Nat) (b : List Int) (w : World) (hC : Kd.C (Kd.int .u8) w (some ad) b.length b) (hc : b.length ≤ c) (h : b.length = 512) (ct : Nat) (hz0 : Lib.countByte (Lib.bytesOf b) 0 = ct) (hct : ct ≠ 512) (K1 : Nat) (inn : List Int) (h1 : wire_Unbox.f K1 b = some (inn, none)) (K2 : Nat) (n : Int) (rs : List Int) (h2 : wire_Take.f K2 inn = some (n, rs, none)) (hrs : rs.length = 480) :
    Calls Try.prog 37 #[.slice (some ad) b.length c] w fun e w' => e = .returned (.tuple #[.agg (pg (n :: cellsOf rs)), .nilIface]) ∧ Below w.heap.size w w' := by
  have HB := Aside0.mk (Below.refl w.heap.size w)
  have HC := Aside0.mk hC
  have HZ := Aside0.mk hz0
  have LC := Aside0.mk hc
  have A1 := Aside0.mk h1
  have A2 := Aside0.mk h2
  have c1 : ((b.length : Int) != 512) = false := by simp; omega
  have c2 : ((ct : Int) == (b.length : Int)) = false := by simp; omega
  obtain ⟨z8, hz⟩ : ∃ z : List Int, z = n :: List.replicate 60 0 := ⟨_, rfl⟩
  have N8 := Aside0.mk hz
  have HRL := Aside0.mk hrs
  have c3 : ((rs.length : Int) != 480) = false := by simp; omega
  have HL := Aside0.mk h
  clear hC hc hz hz0 h h1 hct h2 hrs
  go_enter Try.func37, Try.ntmps37
  go_wp2_with (first | ((with_reducible refine gate_dst (N := 2) rfl ?_); refine page_alloc rfl rfl ?_; intro g2 w2 hg hp hb; have HP := Aside0.mk hp; have G2 := Aside0.mk (show w.heap.size ≤ g2 by rw [hg]; exact Nat.le_refl _); replace HB := Aside0.mk (below_step HB.out hb); clear hp hb hg) | ((with_reducible refine gate_dst (N := 19) rfl ?_); refine Kd.R_lit (w0 := w2) (Kd.int .u8) w2.heap.size 5 ?hg (N := 19) ?hd (xs := ([0] : List Int)) (inner := [.int .u8 0]) (ok := fun _ => True) (okp := fun _ => True) ?hr ?hp (fun _ hk => hk) trivial (Below.refl _ _) (Nat.le_refl _) (by simp) ?_; (case hd => rfl); (case hg => rfl); (case hr => first | (go_simp; done) | (go_simp; rfl)); (case hp => exact (Reps.one (show Kd.M (Kd.int .u8) _ _ _ 0 [.int .u8 0] from rfl) (Reps.none _ _))); intro v_s w_s ho_ hb_ hg_ hnew_; obtain ⟨A_s, c_s, e_s⟩ := Kd.R_slice ho_; subst e_s; obtain ⟨g_s, e_s, _, _, _⟩ := R_form ho_ (by simp); subst e_s; have HCS := Aside0.mk (sep_cell ho_); replace HP := Aside0.mk (HP.out.below hb_); replace HB := Aside0.mk (below_step HB.out hb_); clear ho_ hb_ hg_ hnew_) | ((with_reducible refine gate_callee (f := 54) rfl ?_); (with_reducible refine gate_dst (N := 20) rfl ?_); refine goesL_ (some 20) rfl rfl Try.func54 (by kernel_rfl) rfl #[.slice (some ad) b.length c, .slice (some ⟨g_s, 0, none⟩) 1 c_s] rfl (by (try simp only [List.map_toArray, List.map_cons, List.map_nil]); first | done | rfl) ?_; (refine (count_calls ad c c_s b ⟨g_s, 0, none⟩ _ (Kd.C_below HC.out HB.out) HCS.out).mono ?_); rintro e w_ct ⟨rfl, rfl⟩; refine ⟨_, rfl, ?_⟩; rw [HZ.out]) | ((with_reducible refine gate_callee (f := 29) rfl ?_); (with_reducible refine gate_dst (N := 27) rfl ?_); refine goesL_ (some 27) rfl rfl Try.func29 (by kernel_rfl) rfl #[.slice (some ad) b.length c] rfl (by (try simp only [List.map_toArray, List.map_cons, List.map_nil]); first | done | rfl) ?_; (refine (wire_Unbox.calls K1 _ _ b inn none _ ?side1 ?side2 A1.out).mono ?_); (case side1 => exact Kd.C_below HC.out HB.out); (case side2 => exact LC.out); rintro e w_ub ⟨v_ub, rfl, ho_, hb_⟩; refine ⟨_, rfl, ?_⟩; have HU := Aside0.mk (Kd.R_lower ho_ (below_size HB.out)); replace HP := Aside0.mk (HP.out.below hb_); replace HB := Aside0.mk (below_step HB.out hb_); clear ho_ hb_; obtain ⟨A_u, c_u, e_u⟩ := Kd.R_slice HU.out; subst e_u; (try simp only [errW_none, errW_some])) | ((with_reducible refine gate_callee (f := 32) rfl ?_); (with_reducible refine gate_dst (N := 36) rfl ?_); refine goesL_ (some 36) rfl rfl Try.func32 (by kernel_rfl) rfl #[.slice A_u inn.length c_u] rfl (by (try simp only [List.map_toArray, List.map_cons, List.map_nil]); first | done | rfl) ?_; (refine (wire_Take.calls K2 _ _ inn n rs none _ ?side1 ?side2 A2.out).mono ?_); (case side1 => exact (Kd.R_reads' HU.out).2.2); (case side2 => exact (Kd.R_reads' HU.out).2.1); rintro e w_tk ⟨v_tk, rfl, ho_, hb_⟩; refine ⟨_, rfl, ?_⟩; have HT := Aside0.mk (Kd.R_lower ho_ (below_size HB.out)); replace HP := Aside0.mk (HP.out.below hb_); replace HB := Aside0.mk (below_step HB.out hb_); clear ho_ hb_; obtain ⟨A_t, c_t, e_t⟩ := Kd.R_slice HT.out; subst e_t; (try simp only [errW_none, errW_some])) | ((with_reducible refine gate_dst (N := 50) rfl ?_); refine page_build rfl _ n rfl rfl z8 N8.out ?_) | ((with_reducible refine gate_dst (N := 8) rfl ?_); refine page_alloc rfl rfl ?_; intro g8 w8 hg hp hb; have HP8 := Aside0.mk hp; have HNE := Aside0.mk (show g2 < g8 by rw [hg]; exact HP.out.lt); have G8 := Aside0.mk (show w.heap.size ≤ g8 by rw [hg]; exact below_size HB.out); replace HP := Aside0.mk (HP.out.below hb); replace HT := Aside0.mk (Kd.R_below HT.out hb); replace HB := Aside0.mk (below_step HB.out hb); clear hp hb hg) | (refine page_store rfl rfl (.tmp 8) (.tmp 50) rfl g8 _ z8 rfl rfl HP8.out (by rw [N8.out]; simp) ?_; intro w9 hp hg; replace HT := Aside0.mk (dec_far HP8.out HT.out hg); replace HP8 := Aside0.mk hp; replace HP := Aside0.mk (HP.out.grown hg (fun e => by injection e with e; have := HNE.out; omega)); replace HB := Aside0.mk (page_below HB.out hg G8.out); clear hp hg))
  go_loopg [51] 60 (fun kq v51 w' => ∃ x : Int, v51 = .int .i64 x ∧ Aside0 (0 ≤ x ∧ x ≤ 60 ∧ kq + x.toNat = 60) ∧ Aside0 (Page w' g8 (uptoF n (fun i => wrap64 (word (segOf rs i) 8)) x.toNat)) ∧ Aside0 (Page w' g2 (List.replicate 61 0)) ∧ Aside0 (Kd.R (Kd.int .u8) 5 w' w.heap.size (fun _ => True) (.slice A_t rs.length c_t) rs) ∧ Aside0 (Below w.heap.size w w'))
  case atStart => exact ⟨0, rfl, ⟨by omega⟩, ⟨by rw [show (0 : Int).toNat = 0 from rfl, uptoF_zero, ← N8.out]; exact HP8.out⟩, HP, HT, HB⟩
  case round =>
    clear HT HP HB HP8
    obtain ⟨x, rfl, HX, HP8, HP, HT, HB⟩ := hrel
    obtain ⟨hx0, hx1, hxk⟩ := HX.out
    by_cases hlt : x < 60
    · obtain ⟨k1, rfl⟩ : ∃ k1, gk = k1 + 1 := ⟨gk - 1, by omega⟩
      have HXK := Aside0.mk hxk
      have c1 : decide (x < 60) = true := decide_eq_true hlt
      have HRM := Aside0.mk (Kd.R_reads' HT.out).2.1
      obtain ⟨i0, hi0, _, hsz, _⟩ := info_parts info5
      obtain ⟨A_c, hcut, hA_c, hcc⟩ := print_mid_of (P := Try.prog) (Value.int .u8) (0 : Int) 22 5 .i64 .i64 Try.underlying22 hi0 hsz A_t c_t rs (8 * x) (8 * x + 8) (by omega) (by omega) (by have := HRL.out; omega) HRM.out
      have hlen : ((rs.take (8 * x + 8).toNat).drop (8 * x).toNat).length = 8 := by have := HRL.out; rw [List.length_drop, List.length_take]; omega
      rw [hlen] at hcut
      clear hlen
      have HAC := Aside0.mk (And.intro hA_c hcc)
      clear hA_c hcc hi0 hsz hxk HX
      obtain ⟨seg, hseg⟩ : ∃ s, s = (rs.take (8 * x + 8).toNat).drop (8 * x).toNat := ⟨_, rfl⟩
      rw [← hseg] at HAC
      have NS := Aside0.mk hseg
      clear hseg
      go_wp2
      have HSL := Aside0.mk (show seg.length = 8 by rw [NS.out]; have := HRL.out; rw [List.length_drop, List.length_take]; omega)
      have hrd := HAC.out.1 wr (Kd.reads_of_C (Kd.R_reads' HT.out).2.2)
      rw [HSL.out] at hrd
      have HRD := Aside0.mk hrd
      clear hrd
      go_loopg [10, 62] 8 (fun kq v10 v62 w' => ∃ (u j : Int), v10 = .int .u64 u ∧ v62 = .int .i64 j ∧ Aside0 (0 ≤ j ∧ j ≤ 8 ∧ kq + j.toNat = 8) ∧ Aside0 (u = word seg j.toNat) ∧ Aside0 (Below wr.heap.size wr w'))
      case atStart => exact ⟨0, 0, rfl, rfl, ⟨by omega⟩, ⟨rfl⟩, ⟨Below.refl _ _⟩⟩
      case round =>
        obtain ⟨u, j, rfl, rfl, HJ, HU, HQ⟩ := hrel
        obtain ⟨hj0, hj1, hjk⟩ := HJ.out
        by_cases hlt2 : j < 8
        · obtain ⟨k2, rfl⟩ : ∃ k2, gk = k2 + 1 := ⟨gk - 1, by omega⟩
          have c4 : decide (j < 8) = true := decide_eq_true hlt2
          have q0 := eq_true hj0
          have q1 := eq_true hlt2
          obtain ⟨ad2, hA2, hcell0⟩ := ReadsOf.at_ HRD.out j hj0 (by omega)
          have hs : seg[j.toNat]? = some (rdOf 0 seg j) := by
            unfold rdOf
            rw [List.getD_eq_getElem?_getD, List.getElem?_eq_getElem (show j.toNat < seg.length by have := HSL.out; omega)]
            rfl
          have HS := Aside0.mk hs
          clear hs
          subst hA2
          have hcell := (HQ.out.cell (World.block_lt_of_cell? _ _ hcell0)).trans hcell0
          clear hcell0
          have HJ2 := Aside0.mk hjk
          clear hjk HJ
          go_wp2
          go_roundg k2
          case measure => omega
          case rel => exact ⟨_, j + 1, rfl, rfl, ⟨by have := HJ2.out; omega⟩, ⟨by rw [show (j + 1).toNat = j.toNat + 1 by omega, word_succ seg _ _ HS.out, ← HU.out]⟩, HQ⟩
        · obtain rfl : j = 8 := by omega
          have c4 : decide ((8 : Int) < 8) = false := by decide
          have HP8' := Aside0.mk (HP8.out.below HQ.out)
          have HP' := Aside0.mk (HP.out.below HQ.out)
          have HT' := Aside0.mk (Kd.R_below HT.out HQ.out)
          have HB' := Aside0.mk (below_step HB.out HQ.out)
          clear HP8 HP HT HB
          obtain ⟨old, hold⟩ : ∃ y, (uptoF n (fun i => wrap64 (word (segOf rs i) 8)) x.toNat)[1 + x.toNat]? = some y := ⟨_, List.getElem?_eq_getElem (by rw [uptoF_len]; omega)⟩
          have hpc := HP8'.out.cell (1 + x.toNat) old hold
          have hpf := HP8'.out.free (1 + x.toNat)
          have q0 := eq_true hx0
          have q1 := eq_true hlt
          clear hold hjk HJ
          go_wp2
          have hseg : segOf rs x.toNat = seg := by
            rw [NS.out]
            unfold segOf
            rw [show (8 * x + 8).toNat = 8 * x.toNat + 8 by omega, show (8 * x).toNat = 8 * x.toNat by omega]
          have hu : wrap64 u = wrap64 (word (segOf rs x.toNat) 8) := by rw [hseg, HU.out]; rfl
          have hs := HP8'.out.set (1 + x.toNat) (wrap64 u)
          rw [hu, uptoF_step n (fun i => wrap64 (word (segOf rs i) 8)) x.toNat (by omega), show x.toNat + 1 = (x + 1).toNat by omega, ← hu] at hs
          have hg := Page.far HP'.out (g' := g8) (by have := HNE.out; omega) (1 + x.toNat) (.int .i64 (wrap64 u))
          have hgr := grown_setCell wr g8 (1 + x.toNat) (.int .i64 (wrap64 u))
          go_roundg k1
          case measure => omega
          case rel => exact ⟨x + 1, rfl, ⟨by have := HXK.out; omega⟩, ⟨hs⟩, ⟨hg⟩, ⟨dec_far HP8'.out HT'.out hgr⟩, ⟨HB'.out.setCell G8.out _⟩⟩
    · have c1 : decide (x < 60) = false := decide_eq_false hlt
      obtain rfl : x = 60 := by omega
      clear hxk HX
      go_wp2_with (first | ((with_reducible refine gate_dst (N := 78) rfl ?_); refine page_load rfl _ rfl g8 _ rfl HP8.out ?_) | (refine page_store rfl rfl (.tmp 2) (.tmp 78) rfl g2 _ _ rfl rfl HP.out (uptoF_len _ _ _) ?_; intro w6 hp hg; replace HP := Aside0.mk hp; replace HB := Aside0.mk (page_below HB.out hg G2.out); clear hp hg))
      refine bodyPost_ret (results_page (p := 2) (q := 3) rfl _ _ g2 _ _ rfl rfl HP.out) rfl ?_
      exact ⟨by rw [show (60 : Int).toNat = 60 from rfl, uptoF_full]; rfl, HB.out⟩
end Go.Proofs.Ytbphmpncajfaiaa.K
/- page.Encode and page.Decode as pure functions. -/
namespace Go.Proofs.Ytbphmpncajfaiaa.K
open Go.RowKit Go.Proofs.Ytbphmpncajfaiaa.M Go.Proofs.Ytbphmpncajfaiaa.Py Go.Proofs.YtbphmpncajfaiaaW.PrintWords Go.Proofs.YtbphmpncajfaiaaW.PrintLast Go.Proofs.YtbphmpncajfaiaaW.PrintMore
set_option linter.unusedVariables false
set_option linter.unusedSimpArgs false
theorem count_all {b : List Int} (hb : Bytes b) (hl : b.length = 512) : Lib.countByte (Lib.bytesOf b) 0 = 512 ↔ b = List.replicate 512 0 := by
  unfold Lib.countByte
  constructor
  · intro h
    have hn : (Lib.bytesOf b).length = 512 := by simp [Lib.bytesOf, hl]
    rw [← hn, List.count_eq_length] at h
    apply List.eq_replicate_iff.2 ⟨hl, fun x hx => ?_⟩
    have h2 := h (UInt8.ofNat x.toNat) (by simp only [Lib.bytesOf, List.mem_map]; exact ⟨x, hx, rfl⟩)
    have h3 := hb x hx
    have h4 : (UInt8.ofNat x.toNat).toNat = (0 : UInt8).toNat := by rw [← h2]
    rw [UInt8.toNat_ofNat', UInt8.toNat_zero] at h4
    omega
  · rintro rfl
    unfold Lib.bytesOf
    rw [List.map_replicate]
    exact List.count_replicate_self
theorem decode_calls (A : Option Addr) (c : Nat) (b : List Int) (w : World) (hC : Kd.C (Kd.int .u8) w A b.length b) (hc : b.length ≤ c) (hb : Bytes b) :
    Calls Try.prog 37 #[.slice A b.length c] w fun e w' => e = .returned (.tuple #[.agg (pg (decodeOf b).1), errW (decodeOf b).2]) ∧ Below w.heap.size w w' := by
  by_cases h1 : b.length = 512
  · obtain ⟨ad, rfl⟩ : ∃ ad, A = some ad := by
      have h := hC
      cases A with
      | none =>
        obtain ⟨a, ha, _⟩ := Kd.at_int h 0 (by omega) (by omega)
        cases ha
      | some b => exact ⟨b, rfl⟩
    by_cases h2 : b = List.replicate 512 0
    · have e : decodeOf b = (none61, none) := by
        unfold decodeOf
        rw [if_neg (by omega), if_pos h2]
      rw [e]
      exact decode_blank ad c b w hC hc h1 ((count_all hb h1).2 h2)
    · have hct : Lib.countByte (Lib.bytesOf b) 0 ≠ 512 := fun h => h2 ((count_all hb h1).1 h)
      rcases unbox_two b with h3 | h3
      · obtain ⟨K1, hk1⟩ := unbox_comes hb (by omega)
        have hk1 := hk1 K1 (Nat.le_refl _)
        have hub : Bytes (unboxOf b).1 := by
          unfold unboxOf
          repeat' split
          all_goals first | exact Bytes.nil | exact (hb.take _).drop _
        have hul : (unboxOf b).1.length ≤ 512 := by
          unfold unboxOf
          repeat' split
          all_goals first | exact Nat.zero_le _ | (rw [List.length_drop, List.length_take]; omega)
        obtain ⟨K2, hk2⟩ := take_dec hub (by omega)
        have hk2 := hk2 K2 (Nat.le_refl _)
        have h4 : (unboxOf b).2 = none := by rw [h3]
        have e : decodeOf b = if (takeOf (unboxOf b).1).2 = 0 then (none61, some 4) else if ((unboxOf b).1.drop (takeOf (unboxOf b).1).2.toNat).length ≠ 480 then (none61, some 4) else ((takeOf (unboxOf b).1).1 :: cellsOf ((unboxOf b).1.drop (takeOf (unboxOf b).1).2.toNat), none) := by
          unfold decodeOf
          rw [if_neg (by omega), if_neg h2, if_neg (by rw [h4]; simp)]
        rw [e]
        dsimp only at hk1 hk2
        rw [h3] at hk1
        generalize (unboxOf b).1 = inn at *
        by_cases h5 : (takeOf inn).2 = 0
        · rw [if_pos h5] at hk2 ⊢
          exact decode_nonum ad c b w hC hc h1 _ rfl hct K1 inn hk1 K2 _ _ _ hk2 (Or.inl rfl)
        · rw [if_neg h5] at hk2 ⊢
          by_cases h6 : (inn.drop (takeOf inn).2.toNat).length ≠ 480
          · rw [if_pos h6]
            exact decode_nonum ad c b w hC hc h1 _ rfl hct K1 inn hk1 K2 _ _ _ hk2 (Or.inr ⟨rfl, h6⟩)
          · rw [if_neg h6]
            exact decode_fine ad c b w hC hc h1 _ rfl hct K1 inn hk1 K2 _ _ hk2 (by omega)
      · have e : decodeOf b = (none61, some 4) := by
          unfold decodeOf
          rw [if_neg (by omega), if_neg h2, h3, if_pos (by simp)]
        obtain ⟨K1, hk1⟩ := unbox_comes hb (by omega)
        have hk1 := hk1 K1 (Nat.le_refl _)
        dsimp only at hk1
        rw [h3] at hk1
        rw [e]
        exact decode_nobox ad c b w hC hc h1 _ rfl hct K1 [] 4 hk1
  · have e : decodeOf b = (none61, some 4) := by
      unfold decodeOf
      rw [if_pos h1]
    rw [e]
    exact decode_short A c b w hC hc h1
theorem encode_dec (n : Int) (l : List Int) (w : World) (hn : I64 n) (hl : l.length = 60) :
    Calls Try.prog 39 #[.agg (pg (n :: l))] w fun e w' => ∃ v, e = .returned v ∧ Kd.R (Kd.int .u8) 5 w' w.heap.size (fun _ => True) v (encodeOf n l) ∧ Below w.heap.size w w' := by
  obtain ⟨K1, hk1⟩ := put_comes (acc := []) (l := [n]) (fun x hx => by simp at hx; subst hx; exact hn) (by simp) (by simp)
  have hk1 := hk1 K1 (Nat.le_refl _)
  have e1 : ([] : List Int) ++ M.nums [n] = num n := by simp [M.nums]
  dsimp only at hk1
  rw [e1] at hk1
  obtain ⟨K2, hk2⟩ := box_comes 512 (ls := [num n ++ eights l 60]) (fun x hx => by
    simp only [List.mem_singleton] at hx
    subst hx
    exact ⟨fl_bytes n l, by have := (encode_fit hn hl).1; omega⟩) (by simp)
  have hk2 := hk2 K2 (Nat.le_refl _)
  dsimp only at hk2
  rw [show [num n ++ eights l 60].flatten = num n ++ eights l 60 by simp, encode_box hn hl] at hk2
  exact encode_calls n l w hl K1 K2 _ _ hk1 (num_le hn) hk2
end Go.Proofs.Ytbphmpncajfaiaa.K
/- page.Diff (function 43). -/
namespace Go.Proofs.Ytbphmpncajfaiaa.K
open Go.RowKit Go.Proofs.YtbphmpncajfaiaaW.PrintWords Go.Proofs.YtbphmpncajfaiaaW.PrintLast Go.Proofs.YtbphmpncajfaiaaW.PrintMore
set_option linter.unusedVariables false
set_option linter.unusedSimpArgs false
/-- An image: a cell and a value. -/
def kdI : Kd (Int × Int) := Kd.pair (Kd.int .i64) (Kd.int .i64)
theorem info84 : (Try.prog.info? 84).map (fun i => (i.zero, i.size, i.bytes)) = some (some (.agg #[.int .i64 0, .int .i64 0]), 2, 16) := by kernel_rfl
theorem built84 (i n : Int) : Try.prog.built 84 [(0, .int .i64 i), (1, .int .i64 n)] = some #[.int .i64 i, .int .i64 n] := by kernel_rfl
section
variable {ops : Array Oper} {rest : List Oper} {o : Oper} {a : Act} {Q : Exit → Act → World → Prop}
theorem img_build {W : World} (hgd : o.guard = none) (x y : Operand) (i n : Int) (ho : o.op = .build 84 #[(0, x), (1, y)]) (hx : a.eval x = .int .i64 i) (hy : a.eval y = .int .i64 n) (h : wpList Try.prog ops Q rest (a.put o.dst (.agg #[.int .i64 i, .int .i64 n])) W) : wpList Try.prog ops Q (o :: rest) a W := by
  refine Kd.event_run hgd (v := .agg #[.int .i64 i, .int .i64 n]) (w1 := W) ?_ h
  have := run_build (P := Try.prog) W 84 #[(0, .int .i64 i), (1, .int .i64 n)] _ (built84 i n)
  simp [execOp, ho, hx, hy, this, Sem.run_bind]
end
/-- In which of the first x cells two pages differ. -/
def diffOf (a b : List Int) (x : Nat) : List (Int × Int) := (List.range x).filterMap (fun (i : Nat) => if rd a (i : Int) ≠ rd b (i : Int) then some ((i : Int), rd a (i : Int)) else none)
theorem diff_len (a b : List Int) (x : Nat) : (diffOf a b x).length ≤ x := by
  unfold diffOf
  exact Nat.le_trans (List.length_filterMap_le _ _) (by simp)
theorem diff_succ (a b : List Int) (x : Nat) : diffOf a b (x + 1) = diffOf a b x ++ (if rd a x ≠ rd b x then [((x : Int), rd a x)] else []) := by
  unfold diffOf
  rw [List.range_succ, List.filterMap_append]
  congr 1
  simp only [List.filterMap_cons, List.filterMap_nil]
  by_cases h : rd a x = rd b x
  · rw [if_neg (by simp [h]), if_neg (by simp [h])]
  · rw [if_pos h, if_pos h]
theorem rd_at {l : List Int} {i : Int} (h0 : 0 ≤ i) (h1 : i < l.length) : l[i.toNat]? = some (rd l i) := by
  unfold rd
  rw [List.getD_eq_getElem?_getD, List.getElem?_eq_getElem (by omega)]
  rfl
set_option maxHeartbeats 8000000 in
set_option maxRecDepth 100000 in
theorem diff_calls (m n : Int) (a b : List Int) (w : World) (ha : a.length = 60) (hb : b.length = 60) :
    Calls Try.prog 43 #[.agg (pg (m :: a)), .agg (pg (n :: b))] w fun e w' => ∃ v, e = .returned v ∧ Kd.R kdI 84 w' w.heap.size (fun _ => True) v (diffOf a b 60) ∧ Below w.heap.size w w' := by
  have HA := Aside0.mk ha
  have HL := Aside0.mk hb
  have HB := Aside0.mk (Below.refl w.heap.size w)
  obtain ⟨p, hp⟩ : ∃ p, p = m :: a := ⟨_, rfl⟩
  obtain ⟨q, hq⟩ : ∃ q, q = n :: b := ⟨_, rfl⟩
  have NP := Aside0.mk hp
  have NQ := Aside0.mk hq
  rw [← hp, ← hq]
  clear ha hb hp hq
  go_enter Try.func43, Try.ntmps43
  go_wp2_with (first | ((with_reducible refine gate_dst (N := 2) rfl ?_); refine page_box rfl _ rfl p (by rw [NP.out, List.length_cons, HA.out]) rfl ?_; intro g2 w2 hg hp hb; have HP2 := Aside0.mk (show Page w2 g2 (m :: a) by rw [← NP.out]; exact hp); replace HB := Aside0.mk (below_step HB.out hb); clear hp hb hg) | ((with_reducible refine gate_dst (N := 3) rfl ?_); refine page_box rfl _ rfl q (by rw [NQ.out, List.length_cons, HL.out]) rfl ?_; intro g3 w3 hg hp hb; have G3 := Aside0.mk (show w.heap.size ≤ g3 by rw [hg]; exact below_size HB.out); have HP3 := Aside0.mk (show Page w3 g3 (n :: b) by rw [← NQ.out]; exact hp); replace HP2 := Aside0.mk (HP2.out.below hb); replace HB := Aside0.mk (below_step HB.out hb); clear hp hb hg) | ((with_reducible refine gate_dst (N := 9) rfl ?_); refine page_cells rfl _ rfl g2 m a rfl HP2.out ?_))
  have HO := Aside0.mk (Kd.R_nil kdI 84 w3 w.heap.size (fun _ => True))
  go_loopg [5, 10] 60 (fun kq v5 v10 w' => ∃ x : Int, v10 = .int .i64 x ∧ Aside0 (0 ≤ x ∧ x ≤ 60 ∧ kq + x.toNat = 60) ∧ Aside0 (Kd.R kdI 84 w' w.heap.size (fun _ => True) v5 (diffOf a b x.toNat)) ∧ Aside0 (Page w' g3 (n :: b)) ∧ Aside0 (Below w.heap.size w w'))
  case atStart => exact ⟨0, rfl, ⟨by omega⟩, ⟨by rw [show diffOf a b (0 : Int).toNat = [] from rfl]; exact HO.out⟩, HP3, HB⟩
  case round =>
    clear HO HP2 HP3 HB
    obtain ⟨x, rfl, HX, HO, HP, HB⟩ := hrel
    obtain ⟨hx0, hx1, hxk⟩ := HX.out
    by_cases hlt : x < 60
    · obtain ⟨k1, rfl⟩ : ∃ k1, gk = k1 + 1 := ⟨gk - 1, by omega⟩
      have HXK := Aside0.mk hxk
      have c1 : decide (x < 60) = true := decide_eq_true hlt
      have hcl := HP.out.cell (1 + x.toNat) (rd b x) (by rw [show 1 + x.toNat = x.toNat + 1 by omega, List.getElem?_cons_succ]; exact rd_at hx0 (by rw [HL.out]; omega))
      have q0 := eq_true hx0
      have q1 := eq_true hlt
      have ds := diff_succ a b x.toNat
      rw [show ((x.toNat : Nat) : Int) = x by omega] at ds
      clear hxk HX
      by_cases hne : rd a x = rd b x
      · have c2 : (rd a x != rd b x) = false := by simp [hne]
        rw [if_neg (by simp [hne]), List.append_nil] at ds
        have DS := Aside0.mk ds
        clear ds hne
        go_wp2_with (first | ((with_reducible refine gate_dst (N := 13) rfl ?_); refine page_index rfl _ _ rfl a x HA.out rfl rfl hx0 hlt ?_))
        go_roundg k1
        case measure => omega
        case rel => exact ⟨x + 1, rfl, ⟨by have := HXK.out; omega⟩, ⟨by rw [show (x + 1).toNat = x.toNat + 1 by omega, DS.out]; exact HO.out⟩, HP, HB⟩
      · have c2 : (rd a x != rd b x) = true := by simp [hne]
        rw [if_pos hne] at ds
        have DS := Aside0.mk ds
        have DL := Aside0.mk (diff_len a b x.toNat)
        clear ds hne
        obtain ⟨d, hd⟩ : ∃ d, d = diffOf a b x.toNat := ⟨_, rfl⟩
        rw [← hd] at HO DL
        have ND := Aside0.mk hd
        have HN := Aside0.mk (Kd.R_ne HO.out HP.out.1 (by decide))
        clear hd
        go_wp2_with (first | ((with_reducible refine gate_dst (N := 13) rfl ?_); refine page_index rfl _ _ rfl a x HA.out rfl rfl hx0 hlt ?_) | ((with_reducible refine gate_dst (N := 23) rfl ?_); refine img_build rfl _ _ x (rd a x) rfl rfl rfl ?_) | ((with_reducible refine gate_builtin (b := .append) (xs := #[.tmp 20, .tmp 24]) rfl ?_); at_builtin; refine Kd.R_append kdI (w0 := w) w.heap.size rfl (.tmp 20) (.tmp 24) 80 84 (.agg #[.int .i64 0, .int .i64 0]) 16 rfl Try.underlying80 info84 rfl (by decide) (by omega) u5 d (x, rd a x) [.int .i64 x, .int .i64 (rd a x)] (fun _ => True) (fun _ => False) rfl rfl ?aP (fun _ hk => hk.elim) ?aF ?aO ?aB ?aS ?aL ?_; (case aP => exact ⟨[_], [_], rfl, rfl, rfl⟩); (case aB => exact HB.out); (case aF => exact (fun _ _ => trivial)); (case aO => exact HO.out); (case aS => exact below_size HB.out); (case aL => have := DL.out; omega); intro v1 w1 ho hb hg hat; replace HO := Aside0.mk ho; replace HP := Aside0.mk (HP.out.grown hg HN.out); replace HB := Aside0.mk hb; clear ho hb hg hat))
        go_roundg k1
        case measure => omega
        case rel => exact ⟨x + 1, rfl, ⟨by have := HXK.out; omega⟩, ⟨by rw [show (x + 1).toNat = x.toNat + 1 by omega, DS.out, ← ND.out]; exact HO.out⟩, HP, HB⟩
    · have c1 : decide (x < 60) = false := decide_eq_false hlt
      obtain rfl : x = 60 := by omega
      clear hxk HX
      go_wp2
      go_ret
      exact ⟨_, rfl, HO.out, HB.out⟩
end Go.Proofs.Ytbphmpncajfaiaa.K
/- More words for pages: compared, decoded as known; an image that is read. -/
namespace Go.Proofs.Ytbphmpncajfaiaa.K
open Go.RowKit Go.Proofs.Ytbphmpncajfaiaa.M Go.Proofs.Ytbphmpncajfaiaa.Py Go.Proofs.YtbphmpncajfaiaaW.PrintWords Go.Proofs.YtbphmpncajfaiaaW.PrintLast Go.Proofs.YtbphmpncajfaiaaW.PrintMore
set_option linter.unusedVariables false
set_option linter.unusedSimpArgs false
theorem page_same {p q : List Int} (hp : p.length = 61) (hq : q.length = 61) (w : World) : (Op.equalIn 10000 65 (.agg (pg p)) (.agg (pg q))).run Try.prog w = .ok (decide (p = q)) w := by
  match p, q, hp, hq with
  | x :: a, y :: b, hp, hq =>
    rw [run_eq65 w x y a b (by simpa using hp) (by simpa using hq)]
    simp
theorem guard65 (op : BinOp) (x y : Operand) (w : World) (a b : Array Value) : (eqGuard op 65 x y (.agg a) (.agg b)).run Try.prog w = .ok () w := run_eqGuard_agg w op 65 x y a b (by kernel_rfl)
theorem guard84 (op : BinOp) (x y : Operand) (w : World) (a b : Array Value) : (eqGuard op 84 x y (.agg a) (.agg b)).run Try.prog w = .ok () w := run_eqGuard_agg w op 84 x y a b (by kernel_rfl)
theorem fields84 : Try.prog.fieldsOf 84 = #[{ name := "Cell", type := 3, offset := 0, embedded := false, tag := "", pkgPath := "", byteOffset := 0 }, { name := "Value", type := 3, offset := 1, embedded := false, tag := "", pkgPath := "", byteOffset := 8 }] := by kernel_rfl
theorem img_same (i n j m : Int) (w : World) : (Op.equalIn 10000 84 (.agg #[.int .i64 i, .int .i64 n]) (.agg #[.int .i64 j, .int .i64 m])).run Try.prog w = .ok (decide (i = j ∧ n = m)) w := by
  rw [run_equalIn_struct w 9999 84 _ _ (by rw [fields84]; exact Try.underlying84) (by kernel_rfl), fields84]
  simp only [Op.eqFields, Sem.run_bind]
  rw [if_pos (by decide)]
  simp only [Op.eqFields, Sem.run_bind, run_part3 _ #[.int .i64 i, .int .i64 n] 0 (.int .i64 i) rfl, run_part3 _ #[.int .i64 j, .int .i64 m] 0 (.int .i64 j) rfl, Result.andThen_ok, run_equalIn_int w 9998 3 .i64 .i64 i j Try.underlying3]
  by_cases h : i = j
  · subst h
    simp only [beq_self_eq_true, Bool.not_true, Bool.false_eq_true, if_false, true_and]
    rw [if_pos (by decide)]
    simp only [Sem.run_bind, run_part3 _ #[.int .i64 i, .int .i64 n] 1 (.int .i64 n) rfl, run_part3 _ #[.int .i64 i, .int .i64 m] 1 (.int .i64 m) rfl, Result.andThen_ok, run_equalIn_int w 9998 3 .i64 .i64 n m Try.underlying3]
    by_cases h : n = m
    · simp [h]
    · simp [h]
  · simp [h]
section
variable {ops : Array Oper} {rest : List Oper} {o : Oper} {a : Act} {Q : Exit → Act → World → Prop}
theorem page_eql {W : World} (hgd : o.guard = none) (x y : Operand) (ho : o.op = .binOp .eql 65 x y 65) (p q : List Int) (hx : a.eval x = .agg (pg p)) (hy : a.eval y = .agg (pg q)) (hp : p.length = 61) (hq : q.length = 61) (b : Bool) (hb : decide (p = q) = b) (h : wpList Try.prog ops Q rest (a.put o.dst (.bool b)) W) : wpList Try.prog ops Q (o :: rest) a W := by
  refine Kd.event_run hgd (v := .bool b) (w1 := W) ?_ h
  simp [execOp, ho, hx, hy, Sem.run_bind, guard65, run_eql_struct, page_same hp hq, hb]
theorem page_neq {W : World} (hgd : o.guard = none) (x y : Operand) (ho : o.op = .binOp .neq 65 x y 65) (p q : List Int) (hx : a.eval x = .agg (pg p)) (hy : a.eval y = .agg (pg q)) (hp : p.length = 61) (hq : q.length = 61) (b : Bool) (hb : decide (p = q) = b) (h : wpList Try.prog ops Q rest (a.put o.dst (.bool !b)) W) : wpList Try.prog ops Q (o :: rest) a W := by
  refine Kd.event_run hgd (v := .bool !b) (w1 := W) ?_ h
  simp [execOp, ho, hx, hy, Sem.run_bind, guard65, run_neq_struct, page_same hp hq, hb]
theorem img_eql {W : World} (hgd : o.guard = none) (x y : Operand) (ho : o.op = .binOp .eql 84 x y 84) (i n j m : Int) (hx : a.eval x = .agg #[.int .i64 i, .int .i64 n]) (hy : a.eval y = .agg #[.int .i64 j, .int .i64 m]) (b : Bool) (hb : decide (i = j ∧ n = m) = b) (h : wpList Try.prog ops Q rest (a.put o.dst (.bool b)) W) : wpList Try.prog ops Q (o :: rest) a W := by
  refine Kd.event_run hgd (v := .bool b) (w1 := W) ?_ h
  simp [execOp, ho, hx, hy, Sem.run_bind, guard84, run_eql_struct, img_same]
  rw [← hb]
  simp
theorem agg84 (w : World) : (isAgg 84).run Try.prog w = .ok true w := by
  unfold isAgg
  rw [Sem.run_bind, run_underlying Try.underlying84 w]
  rfl
theorem size84 : (Try.prog.info? 84).map (·.size) = some 2 := by kernel_rfl
theorem run_size84 (w : World) : (sizeOf 84).run Try.prog w = .ok 2 w := by
  have h := size84
  cases hq : Try.prog.info? 84 with
  | none => rw [hq] at h; cases h
  | some i =>
    rw [hq] at h
    simp only [Option.map_some, Option.some.injEq] at h
    simp [sizeOf, typeInfo, hq, h]
theorem img_load {W : World} (hgd : o.guard = none) (x : Operand) (ho : o.op = .load 84 x) (ad : Addr) (i n : Int) (hx : a.eval x = .pointer (some ad)) (h0 : W.cell? (ad.add 0) = some (.int .i64 i)) (h1 : W.cell? (ad.add 1) = some (.int .i64 n)) (h : wpList Try.prog ops Q rest (a.put o.dst (.agg #[.int .i64 i, .int .i64 n])) W) : wpList Try.prog ops Q (o :: rest) a W := by
  refine Kd.event_run hgd (v := .agg #[.int .i64 i, .int .i64 n]) (w1 := W) ?_ h
  have hr := run_loadCells_list (P := Try.prog) W ad [.int .i64 i, .int .i64 n] (fun j v hv => by
    match j, hv with
    | 0, hv => rw [h0]; simpa using hv
    | 1, hv => rw [h1]; simpa using hv)
  simp only [execOp, ho, hx, Instr.loadAt, Instr.sureAddr, loadVar, Sem.run_bind, Sem.run_pure, Result.andThen_ok, agg84, run_size84, if_true]
  rw [show ([Value.int .i64 i, Value.int .i64 n] : List Value).length = 2 from rfl] at hr
  rw [hr]
  rfl
end
/-- An image of a row that is read. -/
theorem img_at {w : World} {A : Option Addr} {n : Nat} {xs : List (Int × Int)} (h : Kd.C kdI w A n xs) (i : Int) (h0 : 0 ≤ i) (h1 : i < n) :
    ∃ ad, A = some ad ∧ w.cell? (ad.add (i.toNat * 2)) = some (.int .i64 (xs.getD i.toNat (0, 0)).1) ∧ w.cell? (ad.add (i.toNat * 2 + 1)) = some (.int .i64 (xs.getD i.toNat (0, 0)).2) := by
  obtain ⟨ad, c, hA, hl, hK, hc⟩ := Kd.C_get h (0, 0) i h0 h1
  obtain ⟨c0, c1, rfl, k0, k1⟩ := hK
  have e0 : c0 = [.int .i64 (xs.getD i.toNat (0, 0)).1] := k0
  have e1 : c1 = [.int .i64 (xs.getD i.toNat (0, 0)).2] := k1
  subst e0 e1
  exact ⟨ad, hA, hc 0 _ rfl, hc 1 _ rfl⟩
theorem decode_is (A : Option Addr) (c : Nat) (b : List Int) (w : World) (hC : Kd.C (Kd.int .u8) w A b.length b) (hc : b.length ≤ c) (hb : Bytes b) (p : List Int) (er : Option Int) (hd : decodeOf b = (p, er)) :
    Calls Try.prog 37 #[.slice A b.length c] w fun e w' => e = .returned (.tuple #[.agg (pg p), errW er]) ∧ Below w.heap.size w w' := by
  have := decode_calls A c b w hC hc hb
  rw [hd] at this
  exact this
/-- A row of the call's own, of no pages; a page has been written. -/
theorem row_far {α : Type} {d : Kd α} {e : Nat} {W w1 : World} {g base : Nat} {l : List Int} {xs : List α} {v : Value} {ok : Nat → Prop} (hp : Page W g l) (h : d.R e W base ok v xs) (ht : ∀ q, q ∈ e :: d.E → q ≠ 65) (hg : W.grownBy w1 (some g)) : d.R e w1 base ok v xs :=
  Kd.R_mono (Kd.R_grown (Kd.R_types h hp.1 ht) hg (fun k hk e => hk.2 (by injection e))) (fun _ hk => hk.1)
end Go.Proofs.Ytbphmpncajfaiaa.K
/- Words: two errors of one integer type held against each other. -/
namespace Go.Proofs.Ytbphmpncajfaiaa.K
open Go.RowKit
theorem equalIn_errs {P : Program} (w : World) (d : Nat) {ti tn : TypeId} {ms : Array (String × TypeId)} {i : TypeInfo} {k : IntKind} (a b : Int) (hi : P.underlying ti = some (.interface ms)) (hn : P.underlying tn = some (.int k)) (hinfo : P.info? tn = some i) (hcomp : i.comparable = true) :
    (Op.equalIn (d + 2) ti (.iface tn (.int k a)) (.iface tn (.int k b))).run P w = .ok (a == b) w := by
  simp [Op.equalIn, run_underlying hi, run_underlying hn, typeInfo, hinfo, hcomp]
theorem eql_errs {P : Program} (w : World) {ti tn : TypeId} {ms : Array (String × TypeId)} {i : TypeInfo} {k : IntKind} (a b : Int) (hi : P.underlying ti = some (.interface ms)) (hn : P.underlying tn = some (.int k)) (hinfo : P.info? tn = some i) (hcomp : i.comparable = true) :
    (binOp .eql ti (.iface tn (.int k a)) (.iface tn (.int k b))).run P w = .ok (.bool (a == b)) w := by
  simp only [binOp]
  simp [Op.equal, Op.maxDepth, equalIn_errs w 9998 a b hi hn hinfo hcomp]
theorem neq_errs {P : Program} (w : World) {ti tn : TypeId} {ms : Array (String × TypeId)} {i : TypeInfo} {k : IntKind} (a b : Int) (hi : P.underlying ti = some (.interface ms)) (hn : P.underlying tn = some (.int k)) (hinfo : P.info? tn = some i) (hcomp : i.comparable = true) :
    (binOp .neq ti (.iface tn (.int k a)) (.iface tn (.int k b))).run P w = .ok (.bool (!(a == b))) w := by
  simp only [binOp]
  simp [Op.equal, Op.maxDepth, equalIn_errs w 9998 a b hi hn hinfo hcomp]
/-- The program's own errors. -/
theorem info49 : ∃ i, Try.prog.info? 49 = some i ∧ i.comparable = true := by
  obtain ⟨i, hi⟩ : ∃ i, Try.prog.info? 49 = some i := Option.isSome_iff_exists.1 (by kernel_rfl)
  have h : (Try.prog.info? 49).map (·.comparable) = some true := by kernel_rfl
  rw [hi] at h
  exact ⟨i, hi, by simpa using h⟩
theorem eql49 (W : World) (a b : Int) : (binOp .eql 40 (.iface 49 (.int .i64 a)) (.iface 49 (.int .i64 b))).run Try.prog W = .ok (.bool (a == b)) W := by
  obtain ⟨i, hi, hc⟩ := info49
  exact eql_errs W a b Try.underlying40 Try.underlying49 hi hc
theorem neq49 (W : World) (a b : Int) : (binOp .neq 40 (.iface 49 (.int .i64 a)) (.iface 49 (.int .i64 b))).run Try.prog W = .ok (.bool (!(a == b))) W := by
  obtain ⟨i, hi, hc⟩ := info49
  exact neq_errs W a b Try.underlying40 Try.underlying49 hi hc
end Go.Proofs.Ytbphmpncajfaiaa.K
/- alive of the law of pages (function 35). -/
namespace Go.Proofs.Ytbphmpncajfaiaa.K
open Go.RowKit Go.Proofs.Ytbphmpncajfaiaa.M Go.Proofs.Ytbphmpncajfaiaa.Py Go.Proofs.YtbphmpncajfaiaaW.PrintWords Go.Proofs.YtbphmpncajfaiaaW.PrintLast Go.Proofs.YtbphmpncajfaiaaW.PrintMore
set_option linter.unusedVariables false
set_option linter.unusedSimpArgs false
theorem encode_page (p : List Int) (w : World) (hn : ∀ x ∈ p, I64 x) (hl : p.length = 61) :
    Calls Try.prog 39 #[.agg (pg p)] w fun e w' => ∃ v, e = .returned v ∧ Kd.R (Kd.int .u8) 5 w' w.heap.size (fun _ => True) v (encodeOf (p.headD 0) p.tail) ∧ Below w.heap.size w w' := by
  match p, hn, hl with
  | n :: l, hn, hl => exact encode_dec n l w (hn n List.mem_cons_self) (by simpa using hl)
/-- In which cells two pages differ. -/
def diffP (p q : List Int) : List (Int × Int) := diffOf p.tail q.tail 60
theorem diff_page (p q : List Int) (w : World) (hp : p.length = 61) (hq : q.length = 61) :
    Calls Try.prog 43 #[.agg (pg p), .agg (pg q)] w fun e w' => ∃ v, e = .returned v ∧ Kd.R kdI 84 w' w.heap.size (fun _ => True) v (diffP p q) ∧ Below w.heap.size w w' := by
  match p, q, hp, hq with
  | m :: a, n :: b, hp, hq => exact diff_calls m n a b w (by simpa using hp) (by simpa using hq)
set_option maxHeartbeats 8000000 in
set_option maxRecDepth 100000 in
theorem alive5_calls (w : World) : Calls Try.prog 35 #[] w fun e w' => e = .returned (.bool true) ∧ Below w.heap.size w w' := by
  have HB := Aside0.mk (Below.refl w.heap.size w)
  have heq := eql49
  obtain ⟨z, hz⟩ : ∃ z : List Int, z = 5 :: List.replicate 60 0 := ⟨_, rfl⟩
  obtain ⟨l, hl⟩ : ∃ l : List Int, l = (List.replicate 60 0).set 3 (-7) := ⟨_, rfl⟩
  obtain ⟨p5, hp5⟩ : ∃ p : List Int, p = 5 :: l := ⟨_, rfl⟩
  obtain ⟨nn, hnn⟩ : ∃ p : List Int, p = List.replicate 61 0 := ⟨_, rfl⟩
  obtain ⟨bx, hbx⟩ : ∃ b, b = encodeOf 5 l := ⟨_, rfl⟩
  obtain ⟨zs, hzs⟩ : ∃ b : List Int, b = List.replicate 512 0 := ⟨_, rfl⟩
  obtain ⟨d, hd⟩ : ∃ d, d = diffP p5 nn := ⟨_, rfl⟩
  have NZ := Aside0.mk hz
  have LZ := Aside0.mk (show z.length = 61 by rw [hz]; rfl)
  have CZ := Aside0.mk (show z[4]? = some 0 by rw [hz]; rfl)
  have NP5 := Aside0.mk (show p5 = z.set 4 (-7) by rw [hp5, hz, hl]; rfl)
  have L60 := Aside0.mk (show l.length = 60 by rw [hl]; rfl)
  have L61 := Aside0.mk (show p5.length = 61 by rw [hp5, hl]; rfl)
  have NN := Aside0.mk hnn
  have LN := Aside0.mk (show nn.length = 61 by rw [hnn]; rfl)
  have NB := Aside0.mk (show bx = encodeOf (p5.headD 0) p5.tail by rw [hp5]; exact hbx)
  have IP := Aside0.mk (show ∀ x ∈ p5, I64 x by
    intro x hx
    rw [hp5, hl] at hx
    have : x = 5 ∨ x = 0 ∨ x = -7 := by
      rcases List.mem_cons.1 hx with h | h
      · exact Or.inl h
      · rcases List.mem_or_eq_of_mem_set h with h | h
        · exact Or.inr (Or.inl (List.eq_of_mem_replicate h))
        · exact Or.inr (Or.inr h)
    unfold I64
    omega)
  have BB := Aside0.mk (show Bytes bx by rw [hbx]; exact encode_bytes 5 l)
  have LBX := Aside0.mk (show bx.length = 512 by rw [hbx]; exact encode_len (by unfold I64; omega) L60.out)
  have D1 := Aside0.mk (show decodeOf bx = (p5, none) by
    rw [hbx, hp5]
    exact decode_encode (by unfold I64; omega) L60.out (fun x hx => IP.out x (by rw [hp5]; exact List.mem_cons_of_mem _ hx)))
  have NS := Aside0.mk hzs
  have BS := Aside0.mk (show Bytes zs by rw [hzs]; exact Bytes.replicate _)
  have D2 := Aside0.mk (show decodeOf zs = (nn, none) by rw [hzs, hnn]; unfold decodeOf; rw [if_neg (by simp), if_pos rfl]; rfl)
  have ND := Aside0.mk hd
  have hdd : d = [(3, -7)] := by rw [hd, hp5, hnn, hl]; decide +kernel
  have LD := Aside0.mk (show d.length = 1 by rw [hdd]; rfl)
  have VD := Aside0.mk (show d.getD (Int.toNat 0) (0, 0) = (3, -7) by rw [hdd]; rfl)
  have c1 : ((bx.length : Int) == 512) = true := by rw [LBX.out]; rfl
  have c3 : (0 : Int) < (d.length : Int) := by rw [LD.out]; decide
  have c2 : ((d.length : Int) == 1) = true := by rw [LD.out]; rfl
  clear hz hl hp5 hnn hbx hzs hd hdd
  go_enter Try.func35, Try.ntmps35
  go_wp2_with (first | ((with_reducible refine gate_dst (N := 8) rfl ?_); (try (refine gate_guard (by rfl) ?_; dsimp only)); refine page_build rfl _ (5) rfl rfl z (NZ.out) ?_) | ((with_reducible refine gate_dst (N := 1) rfl ?_); (try (refine gate_guard (by rfl) ?_; dsimp only)); refine page_alloc rfl rfl ?_; intro g_p w_p hg_ hp_ hb_; have G_p := Aside0.mk (show w.heap.size ≤ g_p by rw [hg_]; exact below_size HB.out); have P_p := Aside0.mk hp_; replace HB := Aside0.mk (below_step HB.out hb_); clear hg_ hp_ hb_) | ((try (refine gate_guard (by rfl) ?_; dsimp only)); refine page_store rfl rfl (.tmp 1) (.tmp 8) rfl g_p _ z rfl rfl P_p.out (LZ.out) ?_; intro w_s1 hp_ hg_; replace P_p := Aside0.mk hp_; replace HB := Aside0.mk (page_below HB.out hg_ G_p.out); clear hp_ hg_; have hpc := P_p.out.cell 4 0 CZ.out; have hpf := P_p.out.free 4) | ((with_reducible refine gate_dst (N := 11) rfl ?_); (try (refine gate_guard (by rfl) ?_; dsimp only)); have hg_ := grown_setCell w_s1 g_p 4 (.int .i64 (-7)); replace P_p := Aside0.mk (by have h_ := P_p.out.set 4 (-7); rw [← NP5.out] at h_; exact h_); replace HB := Aside0.mk (page_below HB.out hg_ G_p.out); clear hg_; refine page_load rfl _ rfl g_p _ rfl P_p.out ?_) | ((with_reducible refine gate_callee (f := 39) rfl ?_); (with_reducible refine gate_dst (N := 12) rfl ?_); (try (refine gate_guard (by rfl) ?_; dsimp only)); refine goesL_ (some 12) rfl rfl Try.func39 (by kernel_rfl) rfl #[.agg (pg p5)] rfl (by (try simp only [List.map_toArray, List.map_cons, List.map_nil]); first | done | rfl) ?_; (refine (encode_page p5 _ IP.out L61.out).mono ?_); rintro e w_b ⟨v_b, rfl, ho_, hb_⟩; refine ⟨_, rfl, ?_⟩; have HB0_ := HB; replace P_p := Aside0.mk (P_p.out.below hb_); replace HB := Aside0.mk (below_step HB.out hb_); rw [← NB.out] at ho_; have H_b := Aside0.mk (Kd.R_lower ho_ (below_size HB0_.out)); clear ho_ hb_; obtain ⟨A_b, c_b, e_b⟩ := Kd.R_slice H_b.out; subst e_b; clear HB0_) | ((with_reducible refine gate_callee (f := 37) rfl ?_); (with_reducible refine gate_dst (N := 15) rfl ?_); (try (refine gate_guard (by rfl) ?_; dsimp only)); refine goesL_ (some 15) rfl rfl Try.func37 (by kernel_rfl) rfl #[.slice A_b bx.length c_b] rfl (by (try simp only [List.map_toArray, List.map_cons, List.map_nil]); first | done | rfl) ?_; (refine (decode_is A_b c_b bx _ ?side1 ?side2 (BB.out) p5 none (D1.out)).mono ?_); (case side1 => exact (Kd.R_reads' H_b.out).2.2); (case side2 => exact (Kd.R_reads' H_b.out).2.1); rintro e w_d1 ⟨rfl, hb_⟩; refine ⟨_, rfl, ?_⟩; have HB0_ := HB; replace P_p := Aside0.mk (P_p.out.below hb_); replace H_b := Aside0.mk (Kd.R_below H_b.out hb_); replace HB := Aside0.mk (below_step HB.out hb_); clear hb_; (try simp only [errW_none, errW_some]); clear HB0_) | ((with_reducible refine gate_dst (N := 3) rfl ?_); (try (refine gate_guard (by rfl) ?_; dsimp only)); refine page_alloc rfl rfl ?_; intro g_q w_q hg_ hp_ hb_; have G_q := Aside0.mk (show w.heap.size ≤ g_q by rw [hg_]; exact below_size HB.out); have NE_p_q := Aside0.mk (show g_p < g_q by rw [hg_]; exact P_p.out.lt); replace P_p := Aside0.mk (P_p.out.below hb_); replace H_b := Aside0.mk (Kd.R_below H_b.out hb_); have P_q := Aside0.mk hp_; replace HB := Aside0.mk (below_step HB.out hb_); clear hg_ hp_ hb_) | ((try (refine gate_guard (by rfl) ?_; dsimp only)); refine page_store rfl rfl (.tmp 3) (.tmp 16) rfl g_q _ p5 rfl rfl P_q.out (L61.out) ?_; intro w_s2 hp_ hg_; replace P_p := Aside0.mk (P_p.out.grown hg_ (fun e => by injection e with e; have := NE_p_q.out; omega)); replace H_b := Aside0.mk (row_far P_q.out H_b.out (by decide) hg_); replace P_q := Aside0.mk hp_; replace HB := Aside0.mk (page_below HB.out hg_ G_q.out); clear hp_ hg_) | ((with_reducible refine gate_dst (N := 19) rfl ?_); (try (refine gate_guard (by rfl) ?_; dsimp only)); refine Kd.R_make (w0 := w_s2) (Kd.int .u8) w_s2.heap.size 5 rfl (N := 19) rfl 22 _ _ rfl (512 : Int) rfl rfl Try.underlying22 (.int .u8 0) 1 info5 rfl (by decide) (by omega) 0 (ok := fun _ => True) (okp := fun _ => True) rfl (fun _ hk => hk) trivial (by omega) (by omega) (Below.refl _ _) (Nat.le_refl _) ?_; intro v_z w_z ho_ hb_ hg_ hnew_; rw [show (512 : Int).toNat = 512 from rfl, ← NS.out] at ho_; have HB0_ := HB; replace P_p := Aside0.mk (P_p.out.below hb_); replace H_b := Aside0.mk (Kd.R_below H_b.out hb_); replace P_q := Aside0.mk (P_q.out.below hb_); replace HB := Aside0.mk (below_step HB.out hb_); have H_z := Aside0.mk (Kd.R_lower ho_ (below_size HB0_.out)); clear ho_ hb_ hg_ hnew_ HB0_; obtain ⟨A_z, c_z, e_z⟩ := Kd.R_slice H_z.out; subst e_z) | ((with_reducible refine gate_callee (f := 37) rfl ?_); (with_reducible refine gate_dst (N := 20) rfl ?_); (try (refine gate_guard (by rfl) ?_; dsimp only)); refine goesL_ (some 20) rfl rfl Try.func37 (by kernel_rfl) rfl #[.slice A_z zs.length c_z] rfl (by (try simp only [List.map_toArray, List.map_cons, List.map_nil]); first | done | rfl) ?_; (refine (decode_is A_z c_z zs _ ?side1 ?side2 (BS.out) nn none (D2.out)).mono ?_); (case side1 => exact (Kd.R_reads' H_z.out).2.2); (case side2 => exact (Kd.R_reads' H_z.out).2.1); rintro e w_d2 ⟨rfl, hb_⟩; refine ⟨_, rfl, ?_⟩; have HB0_ := HB; replace P_p := Aside0.mk (P_p.out.below hb_); replace H_b := Aside0.mk (Kd.R_below H_b.out hb_); replace P_q := Aside0.mk (P_q.out.below hb_); replace H_z := Aside0.mk (Kd.R_below H_z.out hb_); replace HB := Aside0.mk (below_step HB.out hb_); clear hb_; (try simp only [errW_none, errW_some]); clear HB0_) | ((with_reducible refine gate_dst (N := 5) rfl ?_); (try (refine gate_guard (by rfl) ?_; dsimp only)); refine page_alloc rfl rfl ?_; intro g_n w_n hg_ hp_ hb_; have G_n := Aside0.mk (show w.heap.size ≤ g_n by rw [hg_]; exact below_size HB.out); have NE_p_n := Aside0.mk (show g_p < g_n by rw [hg_]; exact P_p.out.lt); have NE_q_n := Aside0.mk (show g_q < g_n by rw [hg_]; exact P_q.out.lt); replace P_p := Aside0.mk (P_p.out.below hb_); replace H_b := Aside0.mk (Kd.R_below H_b.out hb_); replace P_q := Aside0.mk (P_q.out.below hb_); replace H_z := Aside0.mk (Kd.R_below H_z.out hb_); have P_n := Aside0.mk hp_; replace HB := Aside0.mk (below_step HB.out hb_); clear hg_ hp_ hb_) | ((try (refine gate_guard (by rfl) ?_; dsimp only)); refine page_store rfl rfl (.tmp 5) (.tmp 21) rfl g_n _ nn rfl rfl P_n.out (LN.out) ?_; intro w_s3 hp_ hg_; replace P_p := Aside0.mk (P_p.out.grown hg_ (fun e => by injection e with e; have := NE_p_n.out; omega)); replace H_b := Aside0.mk (row_far P_n.out H_b.out (by decide) hg_); replace P_q := Aside0.mk (P_q.out.grown hg_ (fun e => by injection e with e; have := NE_q_n.out; omega)); replace H_z := Aside0.mk (row_far P_n.out H_z.out (by decide) hg_); replace P_n := Aside0.mk hp_; replace HB := Aside0.mk (page_below HB.out hg_ G_n.out); clear hp_ hg_) | ((with_reducible refine gate_dst (N := 23) rfl ?_); (try (refine gate_guard (by rfl) ?_; dsimp only)); refine page_load rfl _ rfl g_p _ rfl P_p.out ?_) | ((with_reducible refine gate_dst (N := 24) rfl ?_); (try (refine gate_guard (by rfl) ?_; dsimp only)); refine page_load rfl _ rfl g_n _ rfl P_n.out ?_) | ((with_reducible refine gate_callee (f := 43) rfl ?_); (with_reducible refine gate_dst (N := 25) rfl ?_); (try (refine gate_guard (by rfl) ?_; dsimp only)); refine goesL_ (some 25) rfl rfl Try.func43 (by kernel_rfl) rfl #[.agg (pg p5), .agg (pg nn)] rfl (by (try simp only [List.map_toArray, List.map_cons, List.map_nil]); first | done | rfl) ?_; (refine (diff_page p5 nn _ (L61.out) (LN.out)).mono ?_); rintro e w_df ⟨v_df, rfl, ho_, hb_⟩; refine ⟨_, rfl, ?_⟩; have HB0_ := HB; replace P_p := Aside0.mk (P_p.out.below hb_); replace H_b := Aside0.mk (Kd.R_below H_b.out hb_); replace P_q := Aside0.mk (P_q.out.below hb_); replace H_z := Aside0.mk (Kd.R_below H_z.out hb_); replace P_n := Aside0.mk (P_n.out.below hb_); replace HB := Aside0.mk (below_step HB.out hb_); rw [← ND.out] at ho_; have H_df := Aside0.mk (Kd.R_lower ho_ (below_size HB0_.out)); clear ho_ hb_; obtain ⟨A_df, c_df, e_df⟩ := Kd.R_slice H_df.out; subst e_df; clear HB0_; obtain ⟨ad_, hA_, h0_, h1_⟩ := img_at (Kd.R_reads' H_df.out).2.2 0 (by omega) (by rw [LD.out]; decide); rw [VD.out] at h0_ h1_; subst hA_) | ((with_reducible refine gate_dst (N := 38) rfl ?_); (try (refine gate_guard (by rfl) ?_; dsimp only)); refine page_load rfl _ rfl g_q _ rfl P_q.out ?_) | ((with_reducible refine gate_dst (N := 39) rfl ?_); (try (refine gate_guard (by rfl) ?_; dsimp only)); refine page_load rfl _ rfl g_p _ rfl P_p.out ?_) | ((with_reducible refine gate_dst (N := 40) rfl ?_); (try (refine gate_guard (by rfl) ?_; dsimp only)); refine page_eql rfl _ _ rfl p5 p5 rfl rfl (L61.out) (L61.out) true (decide_eq_true rfl) ?_) | ((with_reducible refine gate_dst (N := 43) rfl ?_); (try (refine gate_guard (by rfl) ?_; dsimp only)); refine page_load rfl _ rfl g_n _ rfl P_n.out ?_) | ((with_reducible refine gate_dst (N := 44) rfl ?_); (try (refine gate_guard (by rfl) ?_; dsimp only)); refine page_blank rfl rfl nn (NN.out) ?_) | ((with_reducible refine gate_dst (N := 45) rfl ?_); (try (refine gate_guard (by rfl) ?_; dsimp only)); refine page_eql rfl _ _ rfl nn nn rfl rfl (LN.out) (LN.out) true (decide_eq_true rfl) ?_) | ((with_reducible refine gate_dst (N := 55) rfl ?_); (try (refine gate_guard (by rfl) ?_; dsimp only)); refine img_load rfl _ rfl _ 3 (-7) rfl h0_ h1_ ?_; clear h0_ h1_) | ((with_reducible refine gate_dst (N := 56) rfl ?_); (try (refine gate_guard (by rfl) ?_; dsimp only)); refine img_build rfl _ _ 3 (-7) rfl rfl rfl ?_) | ((with_reducible refine gate_dst (N := 57) rfl ?_); (try (refine gate_guard (by rfl) ?_; dsimp only)); refine img_eql rfl _ _ rfl 3 (-7) 3 (-7) rfl rfl true rfl ?_))
  go_ret
  exact ⟨rfl, HB.out⟩
end Go.Proofs.Ytbphmpncajfaiaa.K
/- page.Get (function 42) and the law's filled (function 36). -/
namespace Go.Proofs.Ytbphmpncajfaiaa.K
open Go.RowKit Go.Proofs.YtbphmpncajfaiaaW.PrintWords Go.Proofs.YtbphmpncajfaiaaW.PrintLast Go.Proofs.YtbphmpncajfaiaaW.PrintMore
set_option linter.unusedVariables false
set_option linter.unusedSimpArgs false
theorem page_at {l : List Int} {i : Int} (hl : l.length = 61) (h0 : 0 ≤ i) (h1 : i < 60) : l[1 + i.toNat]? = some (rd l (i + 1)) := by
  unfold rd
  have : (i + 1).toNat = 1 + i.toNat := by omega
  rw [this, List.getElem?_eq_getElem (by omega)]
  simp [List.getElem?_eq_getElem (show 1 + i.toNat < l.length by omega)]
def getOf (l : List Int) (i : Int) : Int × Bool := if i < 0 ∨ 60 ≤ i then (0, false) else (rd l (i + 1), true)
set_option maxHeartbeats 8000000 in
set_option maxRecDepth 100000 in
theorem get_calls (l : List Int) (i : Int) (w : World) (hl : l.length = 61) :
    Calls Try.prog 42 #[.agg (pg l), .int .i64 i] w fun e w' => e = .returned (.tuple #[.int .i64 (getOf l i).1, .bool (getOf l i).2]) ∧ Below w.heap.size w w' := by
  have HL := Aside0.mk hl
  have HB := Aside0.mk (Below.refl w.heap.size w)
  obtain ⟨p, hp⟩ : ∃ p, p = pg l := ⟨_, rfl⟩
  have NP := Aside0.mk hp
  rw [← hp]
  clear hl hp
  by_cases h0 : i < 0
  · have h1 : getOf l i = (0, false) := by unfold getOf; rw [if_pos (by omega)]
    rw [h1]
    clear h1
    go_enter Try.func42, Try.ntmps42
    go_wp2_with (first | ((with_reducible refine gate_dst (N := 2) rfl ?_); refine page_box rfl _ rfl l HL.out (by rw [← NP.out]; rfl) ?_; intro g w1 hg hp hb; have HP := Aside0.mk hp; replace HB := Aside0.mk (below_step HB.out hb); clear hp hb hg))
    go_ret2
    exact ⟨rfl, HB.out⟩
  · by_cases h2 : 60 ≤ i
    · have h1 : getOf l i = (0, false) := by unfold getOf; rw [if_pos (by omega)]
      rw [h1]
      have c1 : decide (i < 0) = false := decide_eq_false h0
      have c2 : decide (i ≥ 60) = true := decide_eq_true h2
      clear h1
      go_enter Try.func42, Try.ntmps42
      go_wp2_with (first | ((with_reducible refine gate_dst (N := 2) rfl ?_); refine page_box rfl _ rfl l HL.out (by rw [← NP.out]; rfl) ?_; intro g w1 hg hp hb; have HP := Aside0.mk hp; replace HB := Aside0.mk (below_step HB.out hb); clear hp hb hg))
      go_ret2
      exact ⟨rfl, HB.out⟩
    · have h1 : getOf l i = (rd l (i + 1), true) := by unfold getOf; rw [if_neg (by omega)]
      rw [h1]
      have c1 : decide (i < 0) = false := decide_eq_false h0
      have c2 : decide (i ≥ 60) = false := decide_eq_false h2
      have q0 : 0 ≤ i := by omega
      have q1 : i < 60 := by omega
      have HX := Aside0.mk (page_at HL.out q0 q1)
      clear h1
      go_enter Try.func42, Try.ntmps42
      go_wp2_with (first | ((with_reducible refine gate_dst (N := 2) rfl ?_); refine page_box rfl _ rfl l HL.out (by rw [← NP.out]; rfl) ?_; intro g w1 hg hp hb; have HP := Aside0.mk hp; replace HB := Aside0.mk (below_step HB.out hb); have hcell := hp.cell (1 + i.toNat) _ HX.out; clear hp hb hg))
      go_ret2
      exact ⟨rfl, HB.out⟩
end Go.Proofs.Ytbphmpncajfaiaa.K
/- The law's filled (function 36): a page whose cells are some numbers, again and again. -/
namespace Go.Proofs.Ytbphmpncajfaiaa.K
open Go.RowKit Go.Proofs.YtbphmpncajfaiaaW.PrintWords Go.Proofs.YtbphmpncajfaiaaW.PrintLast Go.Proofs.YtbphmpncajfaiaaW.PrintMore
set_option linter.unusedVariables false
set_option linter.unusedSimpArgs false
/-- What the i-th cell of such a page is. -/
def again (ln : List Int) (i : Nat) : Int := if ln.length = 0 then 0 else rd ln ((i % ln.length : Nat) : Int)
/-- The page up to the x-th cell. -/
def upto (lsn : Int) (ln : List Int) (x : Nat) : List Int := lsn :: (List.range 60).map (fun i => if i < x then again ln i else 0)
def full (lsn : Int) (ln : List Int) : List Int := lsn :: (List.range 60).map (again ln)
theorem upto_len (lsn : Int) (ln : List Int) (x : Nat) : (upto lsn ln x).length = 61 := by simp [upto]
theorem upto_zero (lsn : Int) (ln : List Int) : upto lsn ln 0 = lsn :: List.replicate 60 0 := by simp [upto, List.map_const']
theorem upto_full (lsn : Int) (ln : List Int) : upto lsn ln 60 = full lsn ln := by
  unfold upto full
  rw [List.map_congr_left (fun i hi => by rw [if_pos (List.mem_range.1 hi)])]
theorem upto_step (lsn : Int) (ln : List Int) (x : Nat) (h : x < 60) : (upto lsn ln x).set (1 + x) (again ln x) = upto lsn ln (x + 1) := by
  unfold upto
  rw [show 1 + x = x + 1 by omega, List.set_cons_succ]
  congr 1
  apply List.ext_getElem?
  intro j
  rw [List.getElem?_set]
  simp only [List.length_map, List.length_range, List.getElem?_map]
  by_cases hj : x = j
  · subst hj
    simp [h]
  · rw [if_neg hj]
    by_cases hl : j < 60
    · simp only [List.getElem?_range hl, Option.map_some, Option.some.injEq]
      by_cases h1 : j < x
      · rw [if_pos h1, if_pos (by omega)]
      · rw [if_neg h1, if_neg (by omega)]
    · rw [List.getElem?_eq_none (by simp; omega)]
      rfl
theorem upto_none (lsn : Int) (ln : List Int) (x : Nat) (h : ln.length = 0) : upto lsn ln x = upto lsn ln (x + 1) := by
  unfold upto
  congr 1
  refine List.map_congr_left (fun i _ => ?_)
  unfold again
  rw [if_pos h]
  simp
set_option maxHeartbeats 8000000 in
set_option maxRecDepth 100000 in
theorem filled_calls (lsn : Int) (A : Option Addr) (c : Nat) (ln : List Int) (w : World) (hC : Kd.C (Kd.int .i64) w A ln.length ln) (hc : ln.length ≤ c) (hl : ln.length ≤ 4611686018427387904) :
    Calls Try.prog 36 #[.int .i64 lsn, .slice A ln.length c] w fun e w' => e = .returned (.agg (pg (full lsn ln))) ∧ Below w.heap.size w w' := by
  have HC := Aside0.mk hC
  have HB := Aside0.mk (Below.refl w.heap.size w)
  have HL := Aside0.mk hl
  clear hC hc hl
  obtain ⟨z, hz⟩ : ∃ z : List Int, z = lsn :: List.replicate 60 0 := ⟨_, rfl⟩
  have NZ := Aside0.mk hz
  clear hz
  go_enter Try.func36, Try.ntmps36
  go_wp2_with (first | ((with_reducible refine gate_dst (N := 4) rfl ?_); refine page_alloc rfl rfl ?_; intro g4 w4 hg hp hb; have HP4 := Aside0.mk hp; replace HB := Aside0.mk (below_step HB.out hb); have G4 := Aside0.mk (show w.heap.size ≤ g4 by rw [hg]; exact Nat.le_refl _); clear hp hb hg) | ((with_reducible refine gate_dst (N := 8) rfl ?_); refine page_build rfl _ lsn rfl rfl z NZ.out ?_) | ((with_reducible refine gate_dst (N := 5) rfl ?_); refine page_alloc rfl rfl ?_; intro g5 w5 hg hp hb; have HP5 := Aside0.mk hp; have HNE := Aside0.mk (show g4 < g5 by rw [hg]; exact HP4.out.lt); have G5 := Aside0.mk (show w.heap.size ≤ g5 by rw [hg]; exact below_size HB.out); replace HP4 := Aside0.mk (HP4.out.below hb); replace HB := Aside0.mk (below_step HB.out hb); clear hp hb hg) | (refine page_store rfl rfl (.tmp 5) (.tmp 8) rfl g5 _ z rfl rfl HP5.out (by rw [NZ.out]; simp) ?_; intro w6 hp hg; replace HP5 := Aside0.mk hp; replace HP4 := Aside0.mk (HP4.out.grown hg (fun e => by injection e with e; have := HNE.out; omega)); replace HB := Aside0.mk (page_below HB.out hg G5.out); clear hp hg))
  go_loopg [9] 60 (fun kq v9 w' => ∃ x : Int, v9 = .int .i64 x ∧ Aside0 (0 ≤ x ∧ x ≤ 60 ∧ kq + x.toNat = 60) ∧ Aside0 (Page w' g5 (upto lsn ln x.toNat)) ∧ Aside0 (Page w' g4 (List.replicate 61 0)) ∧ Aside0 (Below w.heap.size w w'))
  case atStart => exact ⟨0, rfl, ⟨by omega⟩, ⟨by rw [show (0 : Int).toNat = 0 from rfl, upto_zero, ← NZ.out]; exact HP5.out⟩, HP4, HB⟩
  case round =>
    clear HP4 HP5 HB
    obtain ⟨x, rfl, HX, HP5, HP4, HB⟩ := hrel
    obtain ⟨hx0, hx1, hxk⟩ := HX.out
    by_cases hlt : x < 60
    · obtain ⟨k1, rfl⟩ : ∃ k1, gk = k1 + 1 := ⟨gk - 1, by omega⟩
      have HXK := Aside0.mk hxk
      have c1 : decide (x < 60) = true := decide_eq_true hlt
      clear hxk HX
      by_cases hn : ln.length = 0
      · have c2 : decide ((ln.length : Int) > 0) = false := decide_eq_false (by omega)
        go_wp2
        go_roundg k1
        case measure => omega
        case rel => exact ⟨x + 1, rfl, ⟨by have := HXK.out; omega⟩, ⟨by rw [show (x + 1).toNat = x.toNat + 1 by omega, ← upto_none lsn ln _ hn]; exact HP5.out⟩, HP4, HB⟩
      · have c2 : decide ((ln.length : Int) > 0) = true := decide_eq_true (by omega)
        obtain ⟨j, hj⟩ : ∃ j : Nat, j = x.toNat % ln.length := ⟨_, rfl⟩
        have hjl : j < ln.length := by rw [hj]; exact Nat.mod_lt _ (by omega)
        have e0 : Int.tmod x (ln.length : Int) = (j : Int) := by
          rw [hj, Int.tmod_eq_emod_of_nonneg hx0, Int.natCast_emod, Int.toNat_of_nonneg hx0]
        have e1 : wrap64 (Int.tmod x (ln.length : Int)) = (j : Int) := by rw [e0]; have := HL.out; unfold wrap64; omega
        obtain ⟨ad, hA, hcl⟩ := Kd.at_int HC.out (j : Int) (by omega) (by omega)
        simp only [Int.toNat_natCast] at hcl
        subst hA
        have hcl' := (HB.out.cell (World.block_lt_of_cell? w _ hcl)).trans hcl
        have hv : again ln x.toNat = rd ln (j : Int) := by unfold again; rw [if_neg hn, ← hj]
        obtain ⟨old, hold⟩ : ∃ y, (upto lsn ln x.toNat)[1 + x.toNat]? = some y := ⟨_, List.getElem?_eq_getElem (by rw [upto_len]; omega)⟩
        have hpc := HP5.out.cell (1 + x.toNat) old hold
        have hpf := HP5.out.free (1 + x.toNat)
        have q0 := eq_true hx0
        have q1 := eq_true hlt
        have q2 : (j : Int) < (ln.length : Int) := by omega
        have q3 : 0 ≤ (j : Int) := by omega
        have q4 : ¬ (ln.length : Int) = 0 := by omega
        have HV := Aside0.mk hv
        have HJ := Aside0.mk hj
        have HN := Aside0.mk hn
        clear hcl hv hj hold hn hjl
        go_wp2
        have hs := HP5.out.set (1 + x.toNat) (rd ln (j : Int))
        rw [← HV.out, upto_step lsn ln x.toNat (by omega), show x.toNat + 1 = (x + 1).toNat by omega] at hs
        have hg := Page.far HP4.out (g' := g5) (by have := HNE.out; omega) (1 + x.toNat) (.int .i64 (rd ln (j : Int)))
        rw [← HV.out] at hg
        go_roundg k1
        case measure => omega
        case rel => exact ⟨x + 1, rfl, ⟨by have := HXK.out; omega⟩, ⟨by rw [← HV.out]; exact hs⟩, ⟨by rw [← HV.out]; exact hg⟩, ⟨HB.out.setCell G5.out _⟩⟩
    · have c1 : decide (x < 60) = false := decide_eq_false hlt
      obtain rfl : x = 60 := by omega
      clear hxk HX
      go_wp2_with (first | ((with_reducible refine gate_dst (N := 26) rfl ?_); refine page_load rfl _ rfl g5 _ rfl HP5.out ?_) | (refine page_store rfl rfl (.tmp 4) (.tmp 26) rfl g4 _ _ rfl rfl HP4.out (upto_len _ _ _) ?_; intro w6 hp hg; replace HP4 := Aside0.mk hp; replace HB := Aside0.mk (page_below HB.out hg G4.out); clear hp hg))
      refine bodyPost_ret (results_cell_row (p := 4) (ty := 65) rfl _ _ g4 65 _ (0, 0) _ rfl HP4.out.1 Try.underlying65 rfl (by rw [pg_size, upto_len]; exact size65)) rfl ?_
      exact ⟨by rw [show (60 : Int).toNat = 60 from rfl, upto_full], HB.out⟩
end Go.Proofs.Ytbphmpncajfaiaa.K
/- PageGets (function 12): which cells there are. -/
namespace Go.Proofs.Ytbphmpncajfaiaa.K
open Go.RowKit Go.Proofs.Ytbphmpncajfaiaa.M Go.Proofs.Ytbphmpncajfaiaa.Py Go.Proofs.YtbphmpncajfaiaaW.PrintWords Go.Proofs.YtbphmpncajfaiaaW.PrintLast Go.Proofs.YtbphmpncajfaiaaW.PrintMore
set_option linter.unusedVariables false
set_option linter.unusedSimpArgs false
theorem full_len (n : Int) (ln : List Int) : (full n ln).length = 61 := by simp [full]
set_option maxHeartbeats 8000000 in
set_option maxRecDepth 100000 in
theorem gets_true (at_ : Int) (A : Option Addr) (c : Nat) (ln : List Int) (w : World) (hC : Kd.C (Kd.int .i64) w A ln.length ln) (hc : ln.length ≤ c) (hl : ln.length ≤ 4611686018427387904) :
    Calls Try.prog 12 #[.slice A ln.length c, .int .i64 at_] w fun e w' => e = .returned (.bool true) ∧ Below w.heap.size w w' := by
  have CC := Aside0.mk hC
  have LC := Aside0.mk hc
  have SC := Aside0.mk hl
  have HB := Aside0.mk (Below.refl w.heap.size w)
  obtain ⟨pf, hpf⟩ : ∃ p, p = full 9 ln := ⟨_, rfl⟩
  have NF := Aside0.mk hpf
  have LF := Aside0.mk (show pf.length = 61 by rw [hpf]; exact full_len 9 ln)
  clear hC hc hl hpf
  by_cases h0 : at_ < 0
  · have GE := Aside0.mk (show getOf pf at_ = (0, false) by unfold getOf; rw [if_pos (by omega)])
    have c1 : decide (at_ < 0) = true := decide_eq_true h0
    clear h0
    go_enter Try.func12, Try.ntmps12
    go_wp2_with (first | ((with_reducible refine gate_callee (f := 35) rfl ?_); (with_reducible refine gate_dst (N := 8) rfl ?_); (try (refine gate_guard (by rfl) ?_; dsimp only)); refine goesL_ (some 8) rfl rfl Try.func35 (by kernel_rfl) rfl #[] rfl (by (try simp only [List.map_toArray, List.map_cons, List.map_nil]); first | done | rfl) ?_; (refine (alive5_calls _).mono ?_); rintro e w_al ⟨rfl, hb_⟩; refine ⟨_, rfl, ?_⟩; have HB0_ := HB; replace HB := Aside0.mk (below_step HB.out hb_); clear hb_; clear HB0_) | ((with_reducible refine gate_callee (f := 36) rfl ?_); (with_reducible refine gate_dst (N := 11) rfl ?_); (try (refine gate_guard (by rfl) ?_; dsimp only)); refine goesL_ (some 11) rfl rfl Try.func36 (by kernel_rfl) rfl #[.int .i64 (9), .slice A ln.length c] rfl (by (try simp only [List.map_toArray, List.map_cons, List.map_nil]); first | done | rfl) ?_; (refine (filled_calls (9) A c ln _ ?side1 ?side2 ?side3).mono ?_); (case side1 => exact Kd.C_below CC.out HB.out); (case side2 => exact LC.out); (case side3 => exact SC.out); rintro e w_f ⟨rfl, hb_⟩; refine ⟨_, rfl, ?_⟩; have HB0_ := HB; replace HB := Aside0.mk (below_step HB.out hb_); rw [← NF.out]; clear hb_; clear HB0_) | ((with_reducible refine gate_dst (N := 5) rfl ?_); (try (refine gate_guard (by rfl) ?_; dsimp only)); refine page_alloc rfl rfl ?_; intro g_p w_p hg_ hp_ hb_; have G_p := Aside0.mk (show w.heap.size ≤ g_p by rw [hg_]; exact below_size HB.out); have P_p := Aside0.mk hp_; replace HB := Aside0.mk (below_step HB.out hb_); clear hg_ hp_ hb_) | ((try (refine gate_guard (by rfl) ?_; dsimp only)); refine page_store rfl rfl (.tmp 5) (.tmp 11) rfl g_p _ pf rfl rfl P_p.out (LF.out) ?_; intro w_s1 hp_ hg_; replace P_p := Aside0.mk hp_; replace HB := Aside0.mk (page_below HB.out hg_ G_p.out); clear hp_ hg_) | ((with_reducible refine gate_dst (N := 13) rfl ?_); (try (refine gate_guard (by rfl) ?_; dsimp only)); refine page_load rfl _ rfl g_p _ rfl P_p.out ?_) | ((with_reducible refine gate_callee (f := 42) rfl ?_); (with_reducible refine gate_dst (N := 15) rfl ?_); (try (refine gate_guard (by rfl) ?_; dsimp only)); refine goesL_ (some 15) rfl rfl Try.func42 (by kernel_rfl) rfl #[.agg (pg pf), .int .i64 at_] rfl (by (try simp only [List.map_toArray, List.map_cons, List.map_nil]); first | done | rfl) ?_; (refine (get_calls pf at_ _ LF.out).mono ?_); rintro e w_g ⟨rfl, hb_⟩; refine ⟨_, rfl, ?_⟩; have HB0_ := HB; replace P_p := Aside0.mk (P_p.out.below hb_); replace HB := Aside0.mk (below_step HB.out hb_); rw [GE.out]; clear hb_; clear HB0_))
    go_ret
    exact ⟨rfl, HB.out⟩
  · have c1 : decide (at_ < 0) = false := decide_eq_false h0
    by_cases h2 : at_ > 59
    · have GE := Aside0.mk (show getOf pf at_ = (0, false) by unfold getOf; rw [if_pos (by omega)])
      have c2 : decide (at_ > 59) = true := decide_eq_true h2
      clear h0 h2
      go_enter Try.func12, Try.ntmps12
      go_wp2_with (first | ((with_reducible refine gate_callee (f := 35) rfl ?_); (with_reducible refine gate_dst (N := 8) rfl ?_); (try (refine gate_guard (by rfl) ?_; dsimp only)); refine goesL_ (some 8) rfl rfl Try.func35 (by kernel_rfl) rfl #[] rfl (by (try simp only [List.map_toArray, List.map_cons, List.map_nil]); first | done | rfl) ?_; (refine (alive5_calls _).mono ?_); rintro e w_al ⟨rfl, hb_⟩; refine ⟨_, rfl, ?_⟩; have HB0_ := HB; replace HB := Aside0.mk (below_step HB.out hb_); clear hb_; clear HB0_) | ((with_reducible refine gate_callee (f := 36) rfl ?_); (with_reducible refine gate_dst (N := 11) rfl ?_); (try (refine gate_guard (by rfl) ?_; dsimp only)); refine goesL_ (some 11) rfl rfl Try.func36 (by kernel_rfl) rfl #[.int .i64 (9), .slice A ln.length c] rfl (by (try simp only [List.map_toArray, List.map_cons, List.map_nil]); first | done | rfl) ?_; (refine (filled_calls (9) A c ln _ ?side1 ?side2 ?side3).mono ?_); (case side1 => exact Kd.C_below CC.out HB.out); (case side2 => exact LC.out); (case side3 => exact SC.out); rintro e w_f ⟨rfl, hb_⟩; refine ⟨_, rfl, ?_⟩; have HB0_ := HB; replace HB := Aside0.mk (below_step HB.out hb_); rw [← NF.out]; clear hb_; clear HB0_) | ((with_reducible refine gate_dst (N := 5) rfl ?_); (try (refine gate_guard (by rfl) ?_; dsimp only)); refine page_alloc rfl rfl ?_; intro g_p w_p hg_ hp_ hb_; have G_p := Aside0.mk (show w.heap.size ≤ g_p by rw [hg_]; exact below_size HB.out); have P_p := Aside0.mk hp_; replace HB := Aside0.mk (below_step HB.out hb_); clear hg_ hp_ hb_) | ((try (refine gate_guard (by rfl) ?_; dsimp only)); refine page_store rfl rfl (.tmp 5) (.tmp 11) rfl g_p _ pf rfl rfl P_p.out (LF.out) ?_; intro w_s1 hp_ hg_; replace P_p := Aside0.mk hp_; replace HB := Aside0.mk (page_below HB.out hg_ G_p.out); clear hp_ hg_) | ((with_reducible refine gate_dst (N := 13) rfl ?_); (try (refine gate_guard (by rfl) ?_; dsimp only)); refine page_load rfl _ rfl g_p _ rfl P_p.out ?_) | ((with_reducible refine gate_callee (f := 42) rfl ?_); (with_reducible refine gate_dst (N := 15) rfl ?_); (try (refine gate_guard (by rfl) ?_; dsimp only)); refine goesL_ (some 15) rfl rfl Try.func42 (by kernel_rfl) rfl #[.agg (pg pf), .int .i64 at_] rfl (by (try simp only [List.map_toArray, List.map_cons, List.map_nil]); first | done | rfl) ?_; (refine (get_calls pf at_ _ LF.out).mono ?_); rintro e w_g ⟨rfl, hb_⟩; refine ⟨_, rfl, ?_⟩; have HB0_ := HB; replace P_p := Aside0.mk (P_p.out.below hb_); replace HB := Aside0.mk (below_step HB.out hb_); rw [GE.out]; clear hb_; clear HB0_))
      go_ret
      exact ⟨rfl, HB.out⟩
    · have GE := Aside0.mk (show getOf pf at_ = (rd pf (at_ + 1), true) by unfold getOf; rw [if_neg (by omega)])
      have c2 : decide (at_ > 59) = false := decide_eq_false h2
      have q0 : 0 ≤ at_ := by omega
      have q1 : at_ < 60 := by omega
      have PA := Aside0.mk (page_at LF.out q0 q1)
      have e1 : (rd pf (at_ + 1) == rd pf (at_ + 1)) = true := by simp
      clear h0 h2
      go_enter Try.func12, Try.ntmps12
      go_wp2_with (first | ((with_reducible refine gate_callee (f := 35) rfl ?_); (with_reducible refine gate_dst (N := 8) rfl ?_); (try (refine gate_guard (by rfl) ?_; dsimp only)); refine goesL_ (some 8) rfl rfl Try.func35 (by kernel_rfl) rfl #[] rfl (by (try simp only [List.map_toArray, List.map_cons, List.map_nil]); first | done | rfl) ?_; (refine (alive5_calls _).mono ?_); rintro e w_al ⟨rfl, hb_⟩; refine ⟨_, rfl, ?_⟩; have HB0_ := HB; replace HB := Aside0.mk (below_step HB.out hb_); clear hb_; clear HB0_) | ((with_reducible refine gate_callee (f := 36) rfl ?_); (with_reducible refine gate_dst (N := 11) rfl ?_); (try (refine gate_guard (by rfl) ?_; dsimp only)); refine goesL_ (some 11) rfl rfl Try.func36 (by kernel_rfl) rfl #[.int .i64 (9), .slice A ln.length c] rfl (by (try simp only [List.map_toArray, List.map_cons, List.map_nil]); first | done | rfl) ?_; (refine (filled_calls (9) A c ln _ ?side1 ?side2 ?side3).mono ?_); (case side1 => exact Kd.C_below CC.out HB.out); (case side2 => exact LC.out); (case side3 => exact SC.out); rintro e w_f ⟨rfl, hb_⟩; refine ⟨_, rfl, ?_⟩; have HB0_ := HB; replace HB := Aside0.mk (below_step HB.out hb_); rw [← NF.out]; clear hb_; clear HB0_) | ((with_reducible refine gate_dst (N := 5) rfl ?_); (try (refine gate_guard (by rfl) ?_; dsimp only)); refine page_alloc rfl rfl ?_; intro g_p w_p hg_ hp_ hb_; have G_p := Aside0.mk (show w.heap.size ≤ g_p by rw [hg_]; exact below_size HB.out); have P_p := Aside0.mk hp_; replace HB := Aside0.mk (below_step HB.out hb_); clear hg_ hp_ hb_) | ((try (refine gate_guard (by rfl) ?_; dsimp only)); refine page_store rfl rfl (.tmp 5) (.tmp 11) rfl g_p _ pf rfl rfl P_p.out (LF.out) ?_; intro w_s1 hp_ hg_; replace P_p := Aside0.mk hp_; replace HB := Aside0.mk (page_below HB.out hg_ G_p.out); clear hp_ hg_) | ((with_reducible refine gate_dst (N := 13) rfl ?_); (try (refine gate_guard (by rfl) ?_; dsimp only)); refine page_load rfl _ rfl g_p _ rfl P_p.out ?_) | ((with_reducible refine gate_callee (f := 42) rfl ?_); (with_reducible refine gate_dst (N := 15) rfl ?_); (try (refine gate_guard (by rfl) ?_; dsimp only)); refine goesL_ (some 15) rfl rfl Try.func42 (by kernel_rfl) rfl #[.agg (pg pf), .int .i64 at_] rfl (by (try simp only [List.map_toArray, List.map_cons, List.map_nil]); first | done | rfl) ?_; (refine (get_calls pf at_ _ LF.out).mono ?_); rintro e w_g ⟨rfl, hb_⟩; refine ⟨_, rfl, ?_⟩; have HB0_ := HB; replace P_p := Aside0.mk (P_p.out.below hb_); replace HB := Aside0.mk (below_step HB.out hb_); rw [GE.out]; clear hb_; have hcell := P_p.out.cell (1 + at_.toNat) _ PA.out; clear HB0_))
      go_ret
      exact ⟨rfl, HB.out⟩
end Go.Proofs.Ytbphmpncajfaiaa.K
/- The package's fixed fact of layer 2: alive() answers true. -/
namespace Go.Proofs.Ytbphmpncajfaiaa.K
open Go.RowKit Go.Proofs.Ytbphmpncajfaiaa.Py Go.Proofs.YtbphmpncajfaiaaW.PrintWords Go.Proofs.YtbphmpncajfaiaaW.PrintLast Go.Proofs.YtbphmpncajfaiaaW.PrintMore
set_option linter.unusedVariables false
set_option linter.unusedSimpArgs false
theorem hbox : wire_Box.f 400 10 [[104], [105]] = some ([114, 150, 221, 128, 0, 2, 104, 105, 0, 0], none) := by decide +kernel
theorem hput : wire_Put.f 40 [] [0, -1, 1, 64] = some [0, 1, 2, 128, 1] := by decide +kernel
theorem hchk : wire_Check.f 400 [[49, 50, 51, 52], [53, 54, 55, 56, 57]] = some 3421780262 := by decide +kernel
theorem str_a : (strOfNums [0, 1, 2, 128, 1]).toList = ([0, 1, 2, 128, 1] : List UInt8) := by decide +kernel
set_option maxHeartbeats 8000000 in
set_option maxRecDepth 100000 in
theorem alive_calls (w : World) : Calls Try.prog 16 #[] w fun e w' => e = .returned (.bool true) ∧ Below w.heap.size w w' := by
  have HB := Aside0.mk (Below.refl w.heap.size w)
  obtain ⟨ya, hya⟩ : ∃ y : List Int, y = [104] := ⟨_, rfl⟩
  obtain ⟨yb, hyb⟩ : ∃ y : List Int, y = [105] := ⟨_, rfl⟩
  obtain ⟨yc, hyc⟩ : ∃ y : List (List Int), y = [ya, yb] := ⟨_, rfl⟩
  obtain ⟨yd, hyd⟩ : ∃ y : List Int, y = [(0), (-1), (1), (64)] := ⟨_, rfl⟩
  obtain ⟨ye, hye⟩ : ∃ y : List Int, y = [49, 50, 51, 52] := ⟨_, rfl⟩
  obtain ⟨yf, hyf⟩ : ∃ y : List Int, y = [53, 54, 55, 56, 57] := ⟨_, rfl⟩
  obtain ⟨yg, hyg⟩ : ∃ y : List (List Int), y = [ye, yf] := ⟨_, rfl⟩
  obtain ⟨bx, hbx⟩ : ∃ y : List Int, y = [114, 150, 221, 128, 0, 2, 104, 105, 0, 0] := ⟨_, rfl⟩
  obtain ⟨pt, hpt⟩ : ∃ y : List Int, y = [0, 1, 2, 128, 1] := ⟨_, rfl⟩
  have A1 := Aside0.mk (show wire_Box.f 400 10 yc = some (bx, none) by rw [hyc, hya, hyb, hbx]; exact hbox)
  have A2 := Aside0.mk (show wire_Put.f 40 [] yd = some pt by rw [hyd, hpt]; exact hput)
  have A3 := Aside0.mk (show wire_Check.f 400 yg = some 3421780262 by rw [hyg, hye, hyf]; exact hchk)
  have LBX := Aside0.mk (show (4 : Int) ≤ bx.length by rw [hbx]; decide)
  have hlen : ((bx.length : Int) == 10) = true := by rw [hbx]; decide
  have hs1 : ((strOfNums pt).toList == ([0, 1, 2, 128, 1] : List UInt8)) = true := by rw [hpt, str_a]; decide
  have hdx : ((strOfNums (bx.drop 4)).toList == ([0, 2, 104, 105, 0, 0] : List UInt8)) = true := by rw [hbx]; decide +kernel
  have Nya := Aside0.mk hya
  have Nyb := Aside0.mk hyb
  have Nyc := Aside0.mk hyc
  have Nyd := Aside0.mk hyd
  have Nye := Aside0.mk hye
  have Nyf := Aside0.mk hyf
  have Nyg := Aside0.mk hyg
  clear hya hyb hyc hyd hye hyf hyg hbx hpt
  obtain ⟨i0, hi0, _, hsz, _⟩ := info_parts info5
  go_enter Try.func16, Try.ntmps16
  go_wp2_with (first | ((with_reducible refine gate_dst (N := 4) rfl ?_); (try (refine gate_guard (by rfl) ?_; dsimp only)); refine Kd.R_lit (w0 := w) (Kd.int .u8) w.heap.size 5 ?hg (N := 4) ?hd (xs := ([104] : List Int)) (inner := [.int .u8 104]) (ok := fun _ => True) (okp := fun _ => True) ?hr ?hp (fun _ hk => hk) trivial (Below.refl _ _) (Nat.le_refl _) (by simp) ?_; (case hd => rfl); (case hg => rfl); (case hr => first | (go_simp; done) | (go_simp; rfl)); (case hp => exact (Reps.one (show Kd.M (Kd.int .u8) _ _ _ 104 [.int .u8 104] from rfl) (Reps.none _ _))); intro v_a w_a ho_ hb_ hg_ hnew_; rw [← Nya.out] at ho_; have HM_ := Aside0.mk ho_; have HMB_ := Aside0.mk hb_; clear ho_ hb_ hg_ hnew_) | ((with_reducible refine gate_dst (N := 5) rfl ?_); (try (refine gate_guard (by rfl) ?_; dsimp only)); refine mark_event (w0 := w) w.heap.size 5 22 rfl (N := 5) rfl _ rfl rfl Try.underlying22 Try.underlying5 HM_.out (by rw [Nya.out]; decide) HMB_.out (below_size HMB_.out) ?_; intro w_am ⟨A_a, c_a, e_a, l_a, hc_⟩ hb_ hg_; subst e_a; replace HB := Aside0.mk (below_step HB.out hb_); have C_a := Aside0.mk hc_; have L_a := Aside0.mk l_a; clear hc_ hb_ hg_ l_a HM_ HMB_) | ((with_reducible refine gate_dst (N := 6) rfl ?_); (try (refine gate_guard (by rfl) ?_; dsimp only)); refine Kd.R_lit (w0 := w_am) (Kd.int .u8) w_am.heap.size 5 ?hg (N := 6) ?hd (xs := ([105] : List Int)) (inner := [.int .u8 105]) (ok := fun _ => True) (okp := fun _ => True) ?hr ?hp (fun _ hk => hk) trivial (Below.refl _ _) (Nat.le_refl _) (by simp) ?_; (case hd => rfl); (case hg => rfl); (case hr => first | (go_simp; done) | (go_simp; rfl)); (case hp => exact (Reps.one (show Kd.M (Kd.int .u8) _ _ _ 105 [.int .u8 105] from rfl) (Reps.none _ _))); intro v_b w_b ho_ hb_ hg_ hnew_; rw [← Nyb.out] at ho_; have HM_ := Aside0.mk ho_; have HMB_ := Aside0.mk hb_; clear ho_ hb_ hg_ hnew_) | ((with_reducible refine gate_dst (N := 7) rfl ?_); (try (refine gate_guard (by rfl) ?_; dsimp only)); refine mark_event (w0 := w_am) w_am.heap.size 5 22 rfl (N := 7) rfl _ rfl rfl Try.underlying22 Try.underlying5 HM_.out (by rw [Nyb.out]; decide) HMB_.out (below_size HMB_.out) ?_; intro w_bm ⟨A_b, c_b, e_b, l_b, hc_⟩ hb_ hg_; subst e_b; replace C_a := Aside0.mk (Kd.C_below C_a.out hb_); replace HB := Aside0.mk (below_step HB.out hb_); have C_b := Aside0.mk hc_; have L_b := Aside0.mk l_b; clear hc_ hb_ hg_ l_b HM_ HMB_) | ((with_reducible refine gate_dst (N := 8) rfl ?_); (try (refine gate_guard (by rfl) ?_; dsimp only)); refine C_lit (Kd.slice 5 (Kd.int .u8)) 22 ?hg (N := 8) ?hd (xs := [ya, yb]) (inner := [.slice A_a ya.length c_a, .slice A_b yb.length c_b]) ?hr ?hp (by simp) ?_; (case hd => rfl); (case hg => rfl); (case hr => first | (go_simp; done) | (go_simp; rfl)); (case hp => exact (Reps.one ⟨_, _, rfl, L_a.out, C_a.out⟩ (Reps.one ⟨_, _, rfl, L_b.out, C_b.out⟩ (Reps.none _ _)))); intro w_c A_c c_c hc_ l_c hb_; rw [← Nyc.out] at hc_ l_c ⊢; replace C_a := Aside0.mk (Kd.C_below C_a.out hb_); replace C_b := Aside0.mk (Kd.C_below C_b.out hb_); replace HB := Aside0.mk (below_step HB.out hb_); have C_c := Aside0.mk hc_; have L_c := Aside0.mk l_c; clear hc_ hb_ l_c) | ((with_reducible refine gate_callee (f := 26) rfl ?_); (with_reducible refine gate_dst (N := 9) rfl ?_); (try (refine gate_guard (by rfl) ?_; dsimp only)); refine goesL_ (some 9) rfl rfl Try.func26 (by kernel_rfl) rfl #[.int .i64 10, .slice A_c yc.length c_c] rfl (by (try simp only [List.map_toArray, List.map_cons, List.map_nil]); first | done | rfl) ?_; (refine (wire_Box.calls 400 10 _ _ yc bx none _ ?side1 ?side2 A1.out).mono ?_); (case side1 => exact C_c.out); (case side2 => exact L_c.out); rintro e w_bx ⟨v_bx, rfl, ho_, hb_⟩; refine ⟨_, rfl, ?_⟩; have HB0_ := HB; replace C_c := Aside0.mk (Kd.C_below C_c.out hb_); replace HB := Aside0.mk (below_step HB.out hb_); have H_bx := Aside0.mk (Kd.R_lower ho_ (below_size HB0_.out)); clear ho_ hb_; obtain ⟨A_bx, c_bx, e_bx⟩ := Kd.R_slice H_bx.out; subst e_bx; (try simp only [errW_none, errW_some]); clear HB0_) | ((with_reducible refine gate_dst (N := 12) rfl ?_); (try (refine gate_guard (by rfl) ?_; dsimp only)); refine Kd.R_lit (w0 := w_bx) (Kd.int .i64) w_bx.heap.size 3 ?hg (N := 12) ?hd (xs := ([(0), (-1), (1), (64)] : List Int)) (inner := [.int .i64 (0), .int .i64 (-1), .int .i64 (1), .int .i64 (64)]) (ok := fun _ => True) (okp := fun _ => True) ?hr ?hp (fun _ hk => hk) trivial (Below.refl _ _) (Nat.le_refl _) (by simp) ?_; (case hd => rfl); (case hg => rfl); (case hr => first | (go_simp; done) | (go_simp; rfl)); (case hp => exact (Reps.one (show Kd.M (Kd.int .i64) _ _ _ (0) [.int .i64 (0)] from rfl) (Reps.one (show Kd.M (Kd.int .i64) _ _ _ (-1) [.int .i64 (-1)] from rfl) (Reps.one (show Kd.M (Kd.int .i64) _ _ _ (1) [.int .i64 (1)] from rfl) (Reps.one (show Kd.M (Kd.int .i64) _ _ _ (64) [.int .i64 (64)] from rfl) (Reps.none _ _)))))); have HB0_ := HB; intro v_d w_d ho_ hb_ hg_ hnew_; rw [← Nyd.out] at ho_; replace H_bx := Aside0.mk (Kd.R_below H_bx.out hb_); replace HB := Aside0.mk (below_step HB.out hb_); have H_d := Aside0.mk (Kd.R_lower ho_ (below_size HB0_.out)); clear ho_ hb_ hg_ hnew_ HB0_; obtain ⟨A_d, c_d, e_d⟩ := Kd.R_slice H_d.out; subst e_d) | ((with_reducible refine gate_callee (f := 19) rfl ?_); (with_reducible refine gate_dst (N := 13) rfl ?_); (try (refine gate_guard (by rfl) ?_; dsimp only)); refine goesL_ (some 13) rfl rfl Try.func19 (by kernel_rfl) rfl #[.slice none 0 0, .slice A_d yd.length c_d] rfl (by (try simp only [List.map_toArray, List.map_cons, List.map_nil]); first | done | rfl) ?_; (refine (wire_Put.calls 40 _ _ ([] : List Int) _ _ yd pt _ ?side1 ?side2 ?side3 ?side4 A2.out).mono ?_); (case side1 => exact Kd.C_nil _ _); (case side2 => exact Nat.le_refl _); (case side3 => exact (Kd.R_reads' H_d.out).2.2); (case side4 => exact (Kd.R_reads' H_d.out).2.1); rintro e w_pt ⟨v_pt, rfl, ho_, hb_⟩; refine ⟨_, rfl, ?_⟩; have HB0_ := HB; replace H_bx := Aside0.mk (Kd.R_below H_bx.out hb_); replace H_d := Aside0.mk (Kd.R_below H_d.out hb_); replace HB := Aside0.mk (below_step HB.out hb_); have hcv_pt := own_string (P := Try.prog) Try.underlying22 Try.underlying5 Try.underlying9 (Kd.own_of_R ho_); clear ho_ hb_; clear HB0_) | ((with_reducible refine gate_dst (N := 17) rfl ?_); (try (refine gate_guard (by rfl) ?_; dsimp only)); refine Kd.R_lit (w0 := w_pt) (Kd.int .u8) w_pt.heap.size 5 ?hg (N := 17) ?hd (xs := ([49, 50, 51, 52] : List Int)) (inner := [.int .u8 49, .int .u8 50, .int .u8 51, .int .u8 52]) (ok := fun _ => True) (okp := fun _ => True) ?hr ?hp (fun _ hk => hk) trivial (Below.refl _ _) (Nat.le_refl _) (by simp) ?_; (case hd => rfl); (case hg => rfl); (case hr => first | (go_simp; done) | (go_simp; rfl)); (case hp => exact (Reps.one (show Kd.M (Kd.int .u8) _ _ _ 49 [.int .u8 49] from rfl) (Reps.one (show Kd.M (Kd.int .u8) _ _ _ 50 [.int .u8 50] from rfl) (Reps.one (show Kd.M (Kd.int .u8) _ _ _ 51 [.int .u8 51] from rfl) (Reps.one (show Kd.M (Kd.int .u8) _ _ _ 52 [.int .u8 52] from rfl) (Reps.none _ _)))))); intro v_e w_e ho_ hb_ hg_ hnew_; rw [← Nye.out] at ho_; have HM_ := Aside0.mk ho_; have HMB_ := Aside0.mk hb_; clear ho_ hb_ hg_ hnew_) | ((with_reducible refine gate_dst (N := 18) rfl ?_); (try (refine gate_guard (by rfl) ?_; dsimp only)); refine mark_event (w0 := w_pt) w_pt.heap.size 5 22 rfl (N := 18) rfl _ rfl rfl Try.underlying22 Try.underlying5 HM_.out (by rw [Nye.out]; decide) HMB_.out (below_size HMB_.out) ?_; intro w_em ⟨A_e, c_e, e_e, l_e, hc_⟩ hb_ hg_; subst e_e; replace H_bx := Aside0.mk (Kd.R_below H_bx.out hb_); replace HB := Aside0.mk (below_step HB.out hb_); have C_e := Aside0.mk hc_; have L_e := Aside0.mk l_e; clear hc_ hb_ hg_ l_e HM_ HMB_) | ((with_reducible refine gate_dst (N := 19) rfl ?_); (try (refine gate_guard (by rfl) ?_; dsimp only)); refine Kd.R_lit (w0 := w_em) (Kd.int .u8) w_em.heap.size 5 ?hg (N := 19) ?hd (xs := ([53, 54, 55, 56, 57] : List Int)) (inner := [.int .u8 53, .int .u8 54, .int .u8 55, .int .u8 56, .int .u8 57]) (ok := fun _ => True) (okp := fun _ => True) ?hr ?hp (fun _ hk => hk) trivial (Below.refl _ _) (Nat.le_refl _) (by simp) ?_; (case hd => rfl); (case hg => rfl); (case hr => first | (go_simp; done) | (go_simp; rfl)); (case hp => exact (Reps.one (show Kd.M (Kd.int .u8) _ _ _ 53 [.int .u8 53] from rfl) (Reps.one (show Kd.M (Kd.int .u8) _ _ _ 54 [.int .u8 54] from rfl) (Reps.one (show Kd.M (Kd.int .u8) _ _ _ 55 [.int .u8 55] from rfl) (Reps.one (show Kd.M (Kd.int .u8) _ _ _ 56 [.int .u8 56] from rfl) (Reps.one (show Kd.M (Kd.int .u8) _ _ _ 57 [.int .u8 57] from rfl) (Reps.none _ _))))))); intro v_f w_f ho_ hb_ hg_ hnew_; rw [← Nyf.out] at ho_; have HM_ := Aside0.mk ho_; have HMB_ := Aside0.mk hb_; clear ho_ hb_ hg_ hnew_) | ((with_reducible refine gate_dst (N := 20) rfl ?_); (try (refine gate_guard (by rfl) ?_; dsimp only)); refine mark_event (w0 := w_em) w_em.heap.size 5 22 rfl (N := 20) rfl _ rfl rfl Try.underlying22 Try.underlying5 HM_.out (by rw [Nyf.out]; decide) HMB_.out (below_size HMB_.out) ?_; intro w_fm ⟨A_f, c_f, e_f, l_f, hc_⟩ hb_ hg_; subst e_f; replace H_bx := Aside0.mk (Kd.R_below H_bx.out hb_); replace C_e := Aside0.mk (Kd.C_below C_e.out hb_); replace HB := Aside0.mk (below_step HB.out hb_); have C_f := Aside0.mk hc_; have L_f := Aside0.mk l_f; clear hc_ hb_ hg_ l_f HM_ HMB_) | ((with_reducible refine gate_dst (N := 21) rfl ?_); (try (refine gate_guard (by rfl) ?_; dsimp only)); refine C_lit (Kd.slice 5 (Kd.int .u8)) 22 ?hg (N := 21) ?hd (xs := [ye, yf]) (inner := [.slice A_e ye.length c_e, .slice A_f yf.length c_f]) ?hr ?hp (by simp) ?_; (case hd => rfl); (case hg => rfl); (case hr => first | (go_simp; done) | (go_simp; rfl)); (case hp => exact (Reps.one ⟨_, _, rfl, L_e.out, C_e.out⟩ (Reps.one ⟨_, _, rfl, L_f.out, C_f.out⟩ (Reps.none _ _)))); intro w_g A_g c_g hc_ l_g hb_; rw [← Nyg.out] at hc_ l_g ⊢; replace H_bx := Aside0.mk (Kd.R_below H_bx.out hb_); replace C_e := Aside0.mk (Kd.C_below C_e.out hb_); replace C_f := Aside0.mk (Kd.C_below C_f.out hb_); replace HB := Aside0.mk (below_step HB.out hb_); have C_g := Aside0.mk hc_; have L_g := Aside0.mk l_g; clear hc_ hb_ l_g) | ((with_reducible refine gate_callee (f := 47) rfl ?_); (with_reducible refine gate_dst (N := 22) rfl ?_); (try (refine gate_guard (by rfl) ?_; dsimp only)); refine goesL_ (some 22) rfl rfl Try.func47 (by kernel_rfl) rfl #[.slice A_g yg.length c_g] rfl (by (try simp only [List.map_toArray, List.map_cons, List.map_nil]); first | done | rfl) ?_; (refine (wire_Check.calls 400 _ _ yg 3421780262 _ ?side1 ?side2 A3.out).mono ?_); (case side1 => exact C_g.out); (case side2 => exact L_g.out); rintro e w_ck ⟨rfl, ⟨nd_, rfl⟩⟩; refine ⟨_, rfl, ?_⟩; have HB0_ := HB; replace H_bx := Aside0.mk (Kd.R_below H_bx.out (pw_below_drewN (Below.refl _ _) nd_)); replace C_g := Aside0.mk (Kd.C_below C_g.out (pw_below_drewN (Below.refl _ _) nd_)); replace HB := Aside0.mk (below_step HB.out (pw_below_drewN (Below.refl _ _) nd_)); obtain ⟨A_x, hcut_x, hA_x, hC_x⟩ := print_drop_of (P := Try.prog) (Value.int .u8) 0 22 5 .i64 Try.underlying22 hi0 hsz A_bx c_bx bx 4 (by omega) LBX.out (Kd.R_reads' H_bx.out).2.1; simp only [show (4 : Int).toNat = 4 from rfl] at hcut_x hA_x hC_x; generalize List.drop 4 bx = dx at hcut_x hA_x hC_x hdx; have hR_x := Kd.C_of_reads (h1 := fun _ => rfl) (hA_x _ (Kd.reads_of_C (Kd.R_reads' H_bx.out).2.2)); have hcv_x := Kd.C_string (P := Try.prog) (A := A_x) (c := c_bx - 4) Try.underlying22 Try.underlying5 Try.underlying9 hR_x; clear hR_x hA_x hC_x; clear HB0_))
  go_ret
  exact ⟨rfl, HB.out⟩
end Go.Proofs.Ytbphmpncajfaiaa.K
/- slips: what WireTurns says: a box with one byte changed is none. -/

namespace Go.Proofs.Ytbphmpncajfaiaa.K
open Go.RowKit Go.Proofs.Ytbphmpncajfaiaa.M Go.Proofs.Ytbphmpncajfaiaa.Py Go.Proofs.YtbphmpncajfaiaaW.PrintWords Go.Proofs.YtbphmpncajfaiaaW.PrintLast Go.Proofs.YtbphmpncajfaiaaW.PrintMore
set_option linter.unusedVariables false
set_option linter.unusedSimpArgs false
set_option maxHeartbeats 8000000 in
set_option maxRecDepth 100000 in
theorem slips_err (size at_ d : Int) (A : Option Addr) (c : Nat) (inn bx : List Int) (w : World) (hI : Kd.C (Kd.int .u8) w A inn.length inn) (hc : inn.length ≤ c) (K1 : Nat)
    (er : Int) (h1 : wire_Box.f K1 size [inn] = some ([], some er)) (hbx : bx = []) :
    Calls Try.prog 31 #[.int .i64 size, .slice A inn.length c, .int .i64 at_, .int .u8 d] w fun e w' => e = .returned (.bool true) ∧ Below w.heap.size w w' := by
  have CI := Aside0.mk hI
  have LI := Aside0.mk hc
  have HB := Aside0.mk (Below.refl w.heap.size w)
  have heq := eql49
  obtain ⟨y, hy⟩ : ∃ y, y = [inn] := ⟨_, rfl⟩
  have A1 := Aside0.mk (show wire_Box.f K1 size y = some (bx, some er) by rw [hy, hbx]; exact h1)
  have Ny := Aside0.mk hy
  have hl : ((bx.length : Int) == 0) = true := by rw [hbx]; rfl
  clear hI hc hy h1 hbx
  go_enter Try.func31, Try.ntmps31
  go_wp2_with (first | ((with_reducible refine gate_callee (f := 16) rfl ?_); (with_reducible refine gate_dst (N := 16) rfl ?_); (try (refine gate_guard (by rfl) ?_; dsimp only)); refine goesL_ (some 16) rfl rfl Try.func16 (by kernel_rfl) rfl #[] rfl (by (try simp only [List.map_toArray, List.map_cons, List.map_nil]); first | done | rfl) ?_; (refine (alive_calls _).mono ?_); rintro e w_al ⟨rfl, hb_⟩; refine ⟨_, rfl, ?_⟩; have HB0_ := HB; replace CI := Aside0.mk (Kd.C_below CI.out hb_); replace HB := Aside0.mk (below_step HB.out hb_); clear hb_; clear HB0_) | ((with_reducible refine gate_dst (N := 21) rfl ?_); (try (refine gate_guard (by rfl) ?_; dsimp only)); refine C_lit (Kd.slice 5 (Kd.int .u8)) 22 ?hg (N := 21) ?hd (xs := [inn]) (inner := [.slice A inn.length c]) ?hr ?hp (by simp) ?_; (case hd => rfl); (case hg => rfl); (case hr => first | (go_simp; done) | (go_simp; rfl)); (case hp => exact (Reps.one ⟨_, _, rfl, LI.out, CI.out⟩ (Reps.none _ _))); intro w_y A_y c_y hc_ l_y hb_; rw [← Ny.out] at hc_ l_y ⊢; replace CI := Aside0.mk (Kd.C_below CI.out hb_); replace HB := Aside0.mk (below_step HB.out hb_); have C_y := Aside0.mk hc_; have L_y := Aside0.mk l_y; clear hc_ hb_ l_y) | ((with_reducible refine gate_callee (f := 26) rfl ?_); (with_reducible refine gate_dst (N := 22) rfl ?_); (try (refine gate_guard (by rfl) ?_; dsimp only)); refine goesL_ (some 22) rfl rfl Try.func26 (by kernel_rfl) rfl #[.int .i64 size, .slice A_y y.length c_y] rfl (by (try simp only [List.map_toArray, List.map_cons, List.map_nil]); first | done | rfl) ?_; (refine (wire_Box.calls K1 size _ _ y bx (some er) _ ?side1 ?side2 A1.out).mono ?_); (case side1 => exact C_y.out); (case side2 => exact L_y.out); rintro e w_bx ⟨v_bx, rfl, ho_, hb_⟩; refine ⟨_, rfl, ?_⟩; have HB0_ := HB; replace CI := Aside0.mk (Kd.C_below CI.out hb_); replace C_y := Aside0.mk (Kd.C_below C_y.out hb_); replace HB := Aside0.mk (below_step HB.out hb_); have H_bx := Aside0.mk (Kd.R_lower ho_ (below_size HB0_.out)); clear ho_ hb_; obtain ⟨A_bx, c_bx, e_bx⟩ := Kd.R_slice H_bx.out; subst e_bx; (try simp only [errW_none, errW_some]); clear HB0_))
  go_ret
  exact ⟨rfl, HB.out⟩
set_option maxHeartbeats 8000000 in
set_option maxRecDepth 100000 in
theorem slips_zero (size at_ d : Int) (A : Option Addr) (c : Nat) (inn bx : List Int) (w : World) (hI : Kd.C (Kd.int .u8) w A inn.length inn) (hc : inn.length ≤ c) (K1 K2 : Nat)
    (h1 : wire_Box.f K1 size [inn] = some (bx, none)) (hlb : bx.length ≤ 65536) (h2 : wire_Unbox.f K2 (List.replicate bx.length 0) = some ([], some 4)) (hd : d = 0) :
    Calls Try.prog 31 #[.int .i64 size, .slice A inn.length c, .int .i64 at_, .int .u8 d] w fun e w' => e = .returned (.bool true) ∧ Below w.heap.size w w' := by
  have CI := Aside0.mk hI
  have LI := Aside0.mk hc
  have HB := Aside0.mk (Below.refl w.heap.size w)
  have heq := eql49
  obtain ⟨y, hy⟩ : ∃ y, y = [inn] := ⟨_, rfl⟩
  have A1 := Aside0.mk (show wire_Box.f K1 size y = some (bx, none) by rw [hy]; exact h1)
  obtain ⟨z, hz⟩ : ∃ z : List Int, z = List.replicate bx.length 0 := ⟨_, rfl⟩
  have A2 := Aside0.mk (show wire_Unbox.f K2 z = some ([], some 4) by rw [hz]; exact h2)
  have Ny := Aside0.mk hy
  have Nz := Aside0.mk hz
  have LB := Aside0.mk hlb
  subst hd
  clear hI hc hy h1 h2 hz hlb
  go_enter Try.func31, Try.ntmps31
  go_wp2_with (first | ((with_reducible refine gate_callee (f := 16) rfl ?_); (with_reducible refine gate_dst (N := 16) rfl ?_); (try (refine gate_guard (by rfl) ?_; dsimp only)); refine goesL_ (some 16) rfl rfl Try.func16 (by kernel_rfl) rfl #[] rfl (by (try simp only [List.map_toArray, List.map_cons, List.map_nil]); first | done | rfl) ?_; (refine (alive_calls _).mono ?_); rintro e w_al ⟨rfl, hb_⟩; refine ⟨_, rfl, ?_⟩; have HB0_ := HB; replace CI := Aside0.mk (Kd.C_below CI.out hb_); replace HB := Aside0.mk (below_step HB.out hb_); clear hb_; clear HB0_) | ((with_reducible refine gate_dst (N := 21) rfl ?_); (try (refine gate_guard (by rfl) ?_; dsimp only)); refine C_lit (Kd.slice 5 (Kd.int .u8)) 22 ?hg (N := 21) ?hd (xs := [inn]) (inner := [.slice A inn.length c]) ?hr ?hp (by simp) ?_; (case hd => rfl); (case hg => rfl); (case hr => first | (go_simp; done) | (go_simp; rfl)); (case hp => exact (Reps.one ⟨_, _, rfl, LI.out, CI.out⟩ (Reps.none _ _))); intro w_y A_y c_y hc_ l_y hb_; rw [← Ny.out] at hc_ l_y ⊢; replace CI := Aside0.mk (Kd.C_below CI.out hb_); replace HB := Aside0.mk (below_step HB.out hb_); have C_y := Aside0.mk hc_; have L_y := Aside0.mk l_y; clear hc_ hb_ l_y) | ((with_reducible refine gate_callee (f := 26) rfl ?_); (with_reducible refine gate_dst (N := 22) rfl ?_); (try (refine gate_guard (by rfl) ?_; dsimp only)); refine goesL_ (some 22) rfl rfl Try.func26 (by kernel_rfl) rfl #[.int .i64 size, .slice A_y y.length c_y] rfl (by (try simp only [List.map_toArray, List.map_cons, List.map_nil]); first | done | rfl) ?_; (refine (wire_Box.calls K1 size _ _ y bx none _ ?side1 ?side2 A1.out).mono ?_); (case side1 => exact C_y.out); (case side2 => exact L_y.out); rintro e w_bx ⟨v_bx, rfl, ho_, hb_⟩; refine ⟨_, rfl, ?_⟩; have HB0_ := HB; replace CI := Aside0.mk (Kd.C_below CI.out hb_); replace C_y := Aside0.mk (Kd.C_below C_y.out hb_); replace HB := Aside0.mk (below_step HB.out hb_); have H_bx := Aside0.mk (Kd.R_lower ho_ (below_size HB0_.out)); clear ho_ hb_; obtain ⟨A_bx, c_bx, e_bx⟩ := Kd.R_slice H_bx.out; subst e_bx; (try simp only [errW_none, errW_some]); clear HB0_) | ((with_reducible refine gate_dst (N := 33) rfl ?_); (try (refine gate_guard (by rfl) ?_; dsimp only)); refine Kd.R_make (w0 := w_bx) (Kd.int .u8) w_bx.heap.size 5 rfl (N := 33) rfl 22 _ _ rfl (bx.length : Int) rfl rfl Try.underlying22 (.int .u8 0) 1 info5 rfl (by decide) (by omega) 0 (ok := fun _ => True) (okp := fun _ => True) rfl (fun _ hk => hk) trivial (by omega) (by have := LB.out; omega) (Below.refl _ _) (Nat.le_refl _) ?_; intro v_z w_z ho_ hb_ hg_ hnew_; simp only [Int.toNat_natCast] at ho_; rw [← Nz.out] at ho_; have HB0_ := HB; replace CI := Aside0.mk (Kd.C_below CI.out hb_); replace H_bx := Aside0.mk (Kd.R_below H_bx.out hb_); replace HB := Aside0.mk (below_step HB.out hb_); have H_z := Aside0.mk (Kd.R_lower ho_ (below_size HB0_.out)); clear ho_ hb_ hg_ hnew_ HB0_; obtain ⟨A_z, c_z, e_z⟩ := Kd.R_slice H_z.out; subst e_z) | ((with_reducible refine gate_callee (f := 29) rfl ?_); (with_reducible refine gate_dst (N := 34) rfl ?_); (try (refine gate_guard (by rfl) ?_; dsimp only)); refine goesL_ (some 34) rfl rfl Try.func29 (by kernel_rfl) rfl #[.slice A_z z.length c_z] rfl (by (try simp only [List.map_toArray, List.map_cons, List.map_nil]); first | done | rfl) ?_; (refine (wire_Unbox.calls K2 _ _ z [] (some 4) _ ?side1 ?side2 A2.out).mono ?_); (case side1 => exact (Kd.R_reads' H_z.out).2.2); (case side2 => exact (Kd.R_reads' H_z.out).2.1); rintro e w_u ⟨v_u, rfl, ho_, hb_⟩; refine ⟨_, rfl, ?_⟩; have HB0_ := HB; replace CI := Aside0.mk (Kd.C_below CI.out hb_); replace H_bx := Aside0.mk (Kd.R_below H_bx.out hb_); replace HB := Aside0.mk (below_step HB.out hb_); obtain ⟨A_u, c_u, e_u⟩ := Kd.R_slice ho_; subst e_u; clear ho_ hb_; (try simp only [errW_none, errW_some]); clear HB0_))
  go_ret
  exact ⟨rfl, HB.out⟩
set_option maxHeartbeats 8000000 in
set_option maxRecDepth 100000 in
theorem slips_turn (size at_ d : Int) (A : Option Addr) (c : Nat) (inn bx : List Int) (w : World) (hI : Kd.C (Kd.int .u8) w A inn.length inn) (hc : inn.length ≤ c) (K1 K2 K3 : Nat)
    (h1 : wire_Box.f K1 size [inn] = some (bx, none)) (hlb : bx.length ≤ 65536) (hlb0 : 0 < bx.length) (h2 : wire_Unbox.f K2 (List.replicate bx.length 0) = some ([], some 4)) (hd : d ≠ 0) (i : Nat) (hi : i < bx.length) (hat : wrap64 ((IntKind.u64.wrap at_).tmod (bx.length : Int)) = i) (h3 : wire_Unbox.f K3 (bx.set i (Go.bits .xor .u8 (rd bx i) d)) = some ([], some 4)) :
    Calls Try.prog 31 #[.int .i64 size, .slice A inn.length c, .int .i64 at_, .int .u8 d] w fun e w' => e = .returned (.bool true) ∧ Below w.heap.size w w' := by
  have CI := Aside0.mk hI
  have LI := Aside0.mk hc
  have HB := Aside0.mk (Below.refl w.heap.size w)
  have heq := eql49
  obtain ⟨y, hy⟩ : ∃ y, y = [inn] := ⟨_, rfl⟩
  have A1 := Aside0.mk (show wire_Box.f K1 size y = some (bx, none) by rw [hy]; exact h1)
  obtain ⟨z, hz⟩ : ∃ z : List Int, z = List.replicate bx.length 0 := ⟨_, rfl⟩
  have A2 := Aside0.mk (show wire_Unbox.f K2 z = some ([], some 4) by rw [hz]; exact h2)
  have A3 := Aside0.mk h3
  have Ny := Aside0.mk hy
  have Nz := Aside0.mk hz
  have LB := Aside0.mk hlb
  have hd0 : (d == 0) = false := beq_eq_false_iff_ne.2 hd
  clear hI hc hy h1 h2 hz hlb h3 hd
  have HI := Aside0.mk hi
  have HAT := Aside0.mk hat
  clear hi hat
  go_enter Try.func31, Try.ntmps31
  go_upto_region 9 with (first | ((with_reducible refine gate_callee (f := 16) rfl ?_); (with_reducible refine gate_dst (N := 16) rfl ?_); (try (refine gate_guard (by rfl) ?_; dsimp only)); refine goesL_ (some 16) rfl rfl Try.func16 (by kernel_rfl) rfl #[] rfl (by (try simp only [List.map_toArray, List.map_cons, List.map_nil]); first | done | rfl) ?_; (refine (alive_calls _).mono ?_); rintro e w_al ⟨rfl, hb_⟩; refine ⟨_, rfl, ?_⟩; have HB0_ := HB; replace CI := Aside0.mk (Kd.C_below CI.out hb_); replace HB := Aside0.mk (below_step HB.out hb_); clear hb_; clear HB0_) | ((with_reducible refine gate_dst (N := 21) rfl ?_); (try (refine gate_guard (by rfl) ?_; dsimp only)); refine C_lit (Kd.slice 5 (Kd.int .u8)) 22 ?hg (N := 21) ?hd (xs := [inn]) (inner := [.slice A inn.length c]) ?hr ?hp (by simp) ?_; (case hd => rfl); (case hg => rfl); (case hr => first | (go_simp; done) | (go_simp; rfl)); (case hp => exact (Reps.one ⟨_, _, rfl, LI.out, CI.out⟩ (Reps.none _ _))); intro w_y A_y c_y hc_ l_y hb_; rw [← Ny.out] at hc_ l_y ⊢; replace CI := Aside0.mk (Kd.C_below CI.out hb_); replace HB := Aside0.mk (below_step HB.out hb_); have C_y := Aside0.mk hc_; have L_y := Aside0.mk l_y; clear hc_ hb_ l_y) | ((with_reducible refine gate_callee (f := 26) rfl ?_); (with_reducible refine gate_dst (N := 22) rfl ?_); (try (refine gate_guard (by rfl) ?_; dsimp only)); refine goesL_ (some 22) rfl rfl Try.func26 (by kernel_rfl) rfl #[.int .i64 size, .slice A_y y.length c_y] rfl (by (try simp only [List.map_toArray, List.map_cons, List.map_nil]); first | done | rfl) ?_; (refine (wire_Box.calls K1 size _ _ y bx none _ ?side1 ?side2 A1.out).mono ?_); (case side1 => exact C_y.out); (case side2 => exact L_y.out); rintro e w_bx ⟨v_bx, rfl, ho_, hb_⟩; refine ⟨_, rfl, ?_⟩; have HB0_ := HB; replace CI := Aside0.mk (Kd.C_below CI.out hb_); replace C_y := Aside0.mk (Kd.C_below C_y.out hb_); replace HB := Aside0.mk (below_step HB.out hb_); have H_bx := Aside0.mk (Kd.R_lower ho_ (below_size HB0_.out)); clear ho_ hb_; obtain ⟨A_bx, c_bx, e_bx⟩ := Kd.R_slice H_bx.out; subst e_bx; (try simp only [errW_none, errW_some]); clear HB0_) | ((with_reducible refine gate_dst (N := 33) rfl ?_); (try (refine gate_guard (by rfl) ?_; dsimp only)); refine Kd.R_make (w0 := w_bx) (Kd.int .u8) w_bx.heap.size 5 rfl (N := 33) rfl 22 _ _ rfl (bx.length : Int) rfl rfl Try.underlying22 (.int .u8 0) 1 info5 rfl (by decide) (by omega) 0 (ok := fun _ => True) (okp := fun _ => True) rfl (fun _ hk => hk) trivial (by omega) (by have := LB.out; omega) (Below.refl _ _) (Nat.le_refl _) ?_; intro v_z w_z ho_ hb_ hg_ hnew_; simp only [Int.toNat_natCast] at ho_; rw [← Nz.out] at ho_; have HB0_ := HB; replace CI := Aside0.mk (Kd.C_below CI.out hb_); replace H_bx := Aside0.mk (Kd.R_below H_bx.out hb_); replace HB := Aside0.mk (below_step HB.out hb_); have H_z := Aside0.mk (Kd.R_lower ho_ (below_size HB0_.out)); clear ho_ hb_ hg_ hnew_ HB0_; obtain ⟨A_z, c_z, e_z⟩ := Kd.R_slice H_z.out; subst e_z) | ((with_reducible refine gate_callee (f := 29) rfl ?_); (with_reducible refine gate_dst (N := 34) rfl ?_); (try (refine gate_guard (by rfl) ?_; dsimp only)); refine goesL_ (some 34) rfl rfl Try.func29 (by kernel_rfl) rfl #[.slice A_z z.length c_z] rfl (by (try simp only [List.map_toArray, List.map_cons, List.map_nil]); first | done | rfl) ?_; (refine (wire_Unbox.calls K2 _ _ z [] (some 4) _ ?side1 ?side2 A2.out).mono ?_); (case side1 => exact (Kd.R_reads' H_z.out).2.2); (case side2 => exact (Kd.R_reads' H_z.out).2.1); rintro e w_u ⟨v_u, rfl, ho_, hb_⟩; refine ⟨_, rfl, ?_⟩; have HB0_ := HB; replace CI := Aside0.mk (Kd.C_below CI.out hb_); replace H_bx := Aside0.mk (Kd.R_below H_bx.out hb_); replace HB := Aside0.mk (below_step HB.out hb_); obtain ⟨A_u, c_u, e_u⟩ := Kd.R_slice ho_; subst e_u; clear ho_ hb_; (try simp only [errW_none, errW_some]); clear HB0_))
  have hlb0' : ((bx.length : Int) == 0) = false := beq_eq_false_iff_ne.2 (by omega)
  have LBB : (bx.length : Int) ≤ 65536 := by have := LB.out; omega
  go_upto_region 10 with (fail)
  rw [HAT.out]
  obtain ⟨g, hA, hgb, hgl, _⟩ := R_form H_bx.out hlb0
  subst hA
  have hcell := Kd.R_cell 0 H_bx.out (i : Int) (by omega) (by have := HI.out; omega)
  have hc1 : w_u.cell? ⟨g, i, none⟩ = some (.int .u8 (rd bx i)) := hcell.1
  have hf1 : w_u.frozen? ⟨g, i, none⟩ = false := hcell.2
  have hi0 : 0 ≤ (i : Int) := by omega
  have hi1 : (i : Int) < bx.length := by have := HI.out; omega
  have hi2 : i < bx.length := HI.out
  clear hcell
  go_upto_region 11 with (fail)
  have H3 := R_put' H_bx.out i (Go.bits .xor .u8 (rd bx i) d)
  have HB3 := Aside0.mk (Below.setCell (p := ⟨g, i, none⟩) HB.out hgb (.int .u8 (Go.bits .xor .u8 (rd bx i) d)))
  obtain ⟨b3, hb3⟩ : ∃ b3, b3 = bx.set i (Go.bits .xor .u8 (rd bx i) d) := ⟨_, rfl⟩
  have hL : b3.length = bx.length := by rw [hb3, List.length_set]
  replace H3 : (Kd.int .u8).R 5 (w_u.setCell ⟨g, i, none⟩ (.int .u8 (Go.bits .xor .u8 (rd bx i) d))) w.heap.size (fun _ => True) (.slice (some ⟨g, 0, none⟩) b3.length c_bx) b3 := by rw [hL, hb3]; exact H3
  replace A3 : wire_Unbox.f K3 b3 = some ([], some 4) := by rw [hb3]; exact A3.out
  have hcall := wire_Unbox.calls K3 (some ⟨g, 0, none⟩) c_bx b3 [] (some 4) (w_u.setCell ⟨g, i, none⟩ (.int .u8 (Go.bits .xor .u8 (rd bx i) d))) (Kd.R_reads' H3).2.2 (Kd.R_reads' H3).2.1 A3
  rw [hL] at hcall
  have HC := Aside0.mk hcall
  clear hcall H3 A3 hb3 hL hc1 hf1 H_bx
  go_wp2_with ((with_reducible refine gate_callee (f := 29) rfl ?_); refine goesL_ (some 58) rfl rfl Try.func29 (by kernel_rfl) rfl #[.slice (some ⟨g, 0, none⟩) bx.length c_bx] rfl (by (try simp only [List.map_toArray, List.map_cons, List.map_nil]); first | done | rfl) ?_; refine HC.out.mono ?_; rintro e w_3 ⟨v_3, rfl, ho_, hb_⟩; refine ⟨_, rfl, ?_⟩; have HB4 := Aside0.mk (below_step HB3.out hb_); obtain ⟨A_3, c_3, e_3⟩ := Kd.R_slice ho_; subst e_3; clear ho_ hb_; (try simp only [errW_none, errW_some]))
  go_ret
  exact ⟨rfl, HB4.out⟩
end Go.Proofs.Ytbphmpncajfaiaa.K
/- WireTurns' own call: a box with one byte changed is none. -/
namespace Go.Proofs.Ytbphmpncajfaiaa.K
open Go.RowKit Go.Proofs.Ytbphmpncajfaiaa.M Go.Proofs.Ytbphmpncajfaiaa.Py Go.Proofs.YtbphmpncajfaiaaW.PrintWords Go.Proofs.YtbphmpncajfaiaaW.PrintLast Go.Proofs.YtbphmpncajfaiaaW.PrintMore
set_option linter.unusedVariables false
set_option linter.unusedSimpArgs false
theorem xor_u8 {a d : Int} (ha : 0 ≤ a ∧ a < 256) (hd : 0 ≤ d ∧ d < 256) (h : d ≠ 0) : (0 ≤ Go.bits .xor .u8 a d ∧ Go.bits .xor .u8 a d < 256) ∧ a ≠ Go.bits .xor .u8 a d := by
  obtain ⟨x, rfl⟩ := Int.eq_ofNat_of_zero_le ha.1
  obtain ⟨y, rfl⟩ := Int.eq_ofNat_of_zero_le hd.1
  have hx : x % 2 ^ IntKind.u8.bits = x := Nat.mod_eq_of_lt (by simp [IntKind.bits]; omega)
  have hy : y % 2 ^ IntKind.u8.bits = y := Nat.mod_eq_of_lt (by simp [IntKind.bits]; omega)
  have hxy : x ^^^ y < 256 := Nat.xor_lt_two_pow (n := 8) (by omega) (by omega)
  have e : Go.bits .xor .u8 (x : Int) (y : Int) = ((x ^^^ y : Nat) : Int) := by
    simp only [bits, BitVec.ofInt_natCast, BitVec.toNat_xor, BitVec.toNat_ofNat, hx, hy]
    rw [IntKind.wrap_u8]
    omega
  rw [e]
  refine ⟨by omega, fun hq => h ?_⟩
  have h1 : x ^^^ 0 = x ^^^ y := by rw [Nat.xor_zero]; omega
  have := xor_can_l h1
  omega
theorem u64_mod (a n : Int) (h0 : 0 < n) (h1 : n ≤ 4294967296) : ∃ i : Nat, (i : Int) < n ∧ wrap64 ((IntKind.u64.wrap a).tmod n) = i := by
  have hw : 0 ≤ IntKind.u64.wrap a := by rw [IntKind.wrap_u64]; omega
  rw [Int.tmod_eq_emod_of_nonneg hw]
  have h2 := Int.emod_nonneg (IntKind.u64.wrap a) (show n ≠ 0 by omega)
  have h3 := Int.emod_lt_of_pos (IntKind.u64.wrap a) h0
  refine ⟨(IntKind.u64.wrap a % n).toNat, by omega, ?_⟩
  rw [Int.toNat_of_nonneg h2]
  unfold wrap64
  omega
theorem slips_true (size at_ d : Int) (A : Option Addr) (c : Nat) (inn : List Int) (w : World) (hI : Kd.C (Kd.int .u8) w A inn.length inn) (hc : inn.length ≤ c) (hb : Bytes inn) (hl : inn.length ≤ 140737488355328) (hd : 0 ≤ d ∧ d < 256) :
    Calls Try.prog 31 #[.int .i64 size, .slice A inn.length c, .int .i64 at_, .int .u8 d] w fun e w' => e = .returned (.bool true) ∧ Below w.heap.size w w' := by
  obtain ⟨K1, h1⟩ := box_comes size (ls := [inn]) (fun l hm => by rw [List.mem_singleton] at hm; subst hm; exact ⟨hb, hl⟩) (by simp)
  have h1 := h1 K1 (Nat.le_refl _)
  rw [List.flatten_cons, List.flatten_nil, List.append_nil] at h1
  cases hr : (boxOf size inn).2 with
  | some e =>
    have he := boxOf_err hr
    have hbx : boxOf size inn = ([], some e) := by rw [← hr, ← he]
    rw [hbx] at h1
    exact slips_err size at_ d A c inn [] w hI hc K1 e h1 rfl
  | none =>
    obtain ⟨g1, g2, g3, g4, g5⟩ := boxOf_ok hr
    have gl := boxOf_len hr
    have hbx : boxOf size inn = ((boxOf size inn).1, none) := by rw [← hr]
    rw [hbx] at h1
    have hbb := boxOf_bytes (size := size) hb
    have h2 := unbox_comes (Bytes.replicate (boxOf size inn).1.length) (by rw [List.length_replicate]; omega)
    rw [unbox_zeros] at h2
    obtain ⟨K2, h2⟩ := h2
    have h2 := h2 K2 (Nat.le_refl _)
    by_cases hd0 : d = 0
    · exact slips_zero size at_ d A c inn _ w hI hc K1 K2 h1 (by omega) h2 hd0
    · obtain ⟨i, hi, hat⟩ := u64_mod at_ ((boxOf size inn).1.length : Int) (by omega) (by omega)
      have hi' : i < (boxOf size inn).1.length := by omega
      have hrd : rd (boxOf size inn).1 i = (boxOf size inn).1[i] := by
        unfold rd
        rw [List.getD_eq_getElem?_getD, Int.toNat_natCast, List.getElem?_eq_getElem hi']
        rfl
      have hx := xor_u8 (hbb _ (List.getElem_mem hi')) hd hd0
      have h3 := unbox_comes (b := (boxOf size inn).1.set i (Go.bits .xor .u8 (rd (boxOf size inn).1 i) d)) (fun x hx' => by
        rcases List.mem_or_eq_of_mem_set hx' with h7 | h7
        · exact hbb x h7
        · rw [h7, hrd]
          exact hx.1) (by rw [List.length_set]; omega)
      rw [hrd, unbox_change hb hr hi' hx.1 hx.2] at h3
      obtain ⟨K3, h3⟩ := h3
      have h3 := h3 K3 (Nat.le_refl _)
      rw [← hrd] at h3
      exact slips_turn size at_ d A c inn _ w hI hc K1 K2 K3 h1 (by omega) (by omega) h2 hd0 i hi' hat h3
theorem turns_calls (size at_ d : Int) (A : Option Addr) (c : Nat) (inn : List Int) (w : World) (hI : Kd.C (Kd.int .u8) w A inn.length inn) (hc : inn.length ≤ c) (hb : Bytes inn) (hl : inn.length ≤ 140737488355328) (hd : 0 ≤ d ∧ d < 256) :
    Calls Try.prog 6 #[.agg #[.int .i64 size, .slice A inn.length c, .int .i64 at_, .int .u8 d]] w fun e w' => e = .returned (.bool true) ∧ Below w.heap.size w w' := by
  have HI := Aside0.mk hI
  have HC := Aside0.mk hc
  have HB := Aside0.mk hb
  clear hI hc hb
  go_enter Try.func6, Try.ntmps6
  go_wp2_with (go_at_call 31; (with_reducible refine (slips_true size at_ d A c inn _ ?side1 HC.out HB.out hl hd).mono ?_); (case side1 => exact Kd.C_alloc HI.out _); rintro e w' ⟨rfl, hb_⟩)
  go_ret
  exact ⟨rfl, below_then (below_alloc (Below.refl _ _) _) (below_size (below_alloc (Below.refl _ _) _)) hb_⟩
end Go.Proofs.Ytbphmpncajfaiaa.K
/- slips of the law of pages (function 41): a sector with one byte changed is none. -/
namespace Go.Proofs.Ytbphmpncajfaiaa.K
open Go.RowKit Go.Proofs.Ytbphmpncajfaiaa.M Go.Proofs.Ytbphmpncajfaiaa.Py Go.Proofs.YtbphmpncajfaiaaW.PrintWords Go.Proofs.YtbphmpncajfaiaaW.PrintLast Go.Proofs.YtbphmpncajfaiaaW.PrintMore
set_option linter.unusedVariables false
set_option linter.unusedSimpArgs false
theorem full_i64 {n : Int} {ln : List Int} (hn : I64 n) (hl : ∀ x ∈ ln, I64 x) : ∀ x ∈ full n ln, I64 x := fun x hx => by
  unfold full at hx
  rcases List.mem_cons.1 hx with rfl | hx
  · exact hn
  · obtain ⟨i, _, rfl⟩ := List.mem_map.1 hx
    unfold again
    split
    · unfold I64; omega
    · rename_i h0
      unfold rd
      rw [List.getD_eq_getElem?_getD, Int.toNat_natCast, List.getElem?_eq_getElem (Nat.mod_lt _ (by omega))]
      exact hl _ (List.getElem_mem _)
theorem xor_u8_0 {a : Int} (ha : 0 ≤ a ∧ a < 256) : Go.bits .xor .u8 a 0 = a := by
  obtain ⟨x, rfl⟩ := Int.eq_ofNat_of_zero_le ha.1
  have hx : x % 2 ^ IntKind.u8.bits = x := Nat.mod_eq_of_lt (by simp [IntKind.bits]; omega)
  rw [show (0 : Int) = ((0 : Nat) : Int) from rfl]
  simp only [bits, BitVec.ofInt_natCast, BitVec.toNat_xor, BitVec.toNat_ofNat, hx, Nat.zero_mod, Nat.xor_zero]
  rw [IntKind.wrap_u8]
  omega
theorem el_rd {l : List Int} {i : Nat} (h : i < l.length) : l[i] = rd l i := by
  unfold rd
  rw [List.getD_eq_getElem?_getD, Int.toNat_natCast, List.getElem?_eq_getElem h]
  rfl
set_option maxHeartbeats 8000000 in
set_option maxRecDepth 100000 in
theorem slips5 (lsn at_ d : Int) (A : Option Addr) (c : Nat) (ln : List Int) (w : World) (hC : Kd.C (Kd.int .i64) w A ln.length ln) (hc : ln.length ≤ c) (hl : ln.length ≤ 4611686018427387904) (hn : I64 lsn) (hI : ∀ x ∈ ln, I64 x) (hd : 0 ≤ d ∧ d < 256) :
    Calls Try.prog 41 #[.int .i64 lsn, .slice A ln.length c, .int .i64 at_, .int .u8 d] w fun e w' => e = .returned (.bool true) ∧ Below w.heap.size w w' := by
  have CC := Aside0.mk hC
  have LC := Aside0.mk hc
  have SC := Aside0.mk hl
  have HB := Aside0.mk (Below.refl w.heap.size w)
  have heq := eql49
  obtain ⟨pf, hpf⟩ : ∃ p, p = full lsn ln := ⟨_, rfl⟩
  obtain ⟨bx, hbx⟩ : ∃ b, b = encodeOf (pf.headD 0) pf.tail := ⟨_, rfl⟩
  obtain ⟨i, hi, hat⟩ := u64_mod at_ 512 (by decide) (by decide)
  have hi' : i < 512 := by omega
  have NF := Aside0.mk hpf
  have LF := Aside0.mk (show pf.length = 61 by rw [hpf]; simp [full])
  have IP := Aside0.mk (show ∀ x ∈ pf, I64 x by rw [hpf]; exact full_i64 hn hI)
  have NB := Aside0.mk hbx
  have e0 : pf.headD 0 = lsn := by rw [hpf]; rfl
  have e1 : pf.tail.length = 60 := by rw [List.length_tail, LF.out]
  have LB := Aside0.mk (show bx.length = 512 by rw [hbx, e0]; exact encode_len hn e1)
  have BB := Aside0.mk (show Bytes bx by rw [hbx]; exact encode_bytes _ _)
  have HI := Aside0.mk hi'
  have c0 : ((bx.length : Int) != 512) = false := by rw [LB.out]; rfl
  have hx1 : (i : Int) < bx.length := by rw [LB.out]; omega
  have hx0 : 0 ≤ (i : Int) := by omega
  obtain ⟨y, hy⟩ : ∃ y, y = Go.bits .xor .u8 (rd bx i) d := ⟨_, rfl⟩
  have hrb := rd_bytes BB.out (i : Int) (by rw [LB.out]; omega)
  have hib : i < bx.length := by rw [LB.out]; exact hi'
  have hel := el_rd hib
  have hyb : 0 ≤ y ∧ y < 256 := by
    rw [hy]
    by_cases h : d = 0
    · rw [h, xor_u8_0 hrb]; exact hrb
    · exact (xor_u8 hrb hd h).1
  have hsp : pf = lsn :: pf.tail := by rw [hpf]; rfl
  have hb2 : bx = encodeOf lsn pf.tail := by rw [hbx, e0]
  have D0 := Aside0.mk (show d = 0 → decodeOf (bx.set i y) = (pf, none) by
    intro h
    have : y = bx[i] := by rw [hy, h, hel]; exact xor_u8_0 hrb
    rw [this, List.set_getElem_self, hb2, decode_encode hn e1 (fun x hx => IP.out x (by rw [hsp]; exact List.mem_cons_of_mem _ hx)), ← hsp])
  have DN := Aside0.mk (show d ≠ 0 → decodeOf (bx.set i y) = (none61, some 4) by
    intro h
    have hne : bx[i] ≠ y := by rw [hel, hy]; exact (xor_u8 hrb hd h).2
    have key : ∀ b, b = encodeOf lsn pf.tail → ∀ hib : i < b.length, b[i] ≠ y → decodeOf (b.set i y) = (none61, some 4) := by
      rintro b rfl hib hne
      exact decode_change hn e1 hib hyb hne
    exact key bx hb2 hib hne)
  have BY := Aside0.mk (show Bytes (bx.set i y) by
    intro x hx
    rcases List.mem_or_eq_of_mem_set hx with h | h
    · exact BB.out x h
    · rw [h]; exact hyb)
  have NY := Aside0.mk hy
  clear hC hc hl hpf hbx e0 e1 hn hI hi hib hel hyb hsp hb2 hrb hi' hy
  go_enter Try.func41, Try.ntmps41
  go_upto_region 7 with (first | ((with_reducible refine gate_callee (f := 35) rfl ?_); (with_reducible refine gate_dst (N := 12) rfl ?_); (try (refine gate_guard (by rfl) ?_; dsimp only)); refine goesL_ (some 12) rfl rfl Try.func35 (by kernel_rfl) rfl #[] rfl (by (try simp only [List.map_toArray, List.map_cons, List.map_nil]); first | done | rfl) ?_; (refine (alive5_calls _).mono ?_); rintro e w_al ⟨rfl, hb_⟩; refine ⟨_, rfl, ?_⟩; have HB0_ := HB; replace HB := Aside0.mk (below_step HB.out hb_); clear hb_; clear HB0_) | ((with_reducible refine gate_callee (f := 36) rfl ?_); (with_reducible refine gate_dst (N := 16) rfl ?_); (try (refine gate_guard (by rfl) ?_; dsimp only)); refine goesL_ (some 16) rfl rfl Try.func36 (by kernel_rfl) rfl #[.int .i64 (lsn), .slice A ln.length c] rfl (by (try simp only [List.map_toArray, List.map_cons, List.map_nil]); first | done | rfl) ?_; (refine (filled_calls (lsn) A c ln _ ?side1 ?side2 ?side3).mono ?_); (case side1 => exact Kd.C_below CC.out HB.out); (case side2 => exact LC.out); (case side3 => exact SC.out); rintro e w_f ⟨rfl, hb_⟩; refine ⟨_, rfl, ?_⟩; have HB0_ := HB; replace HB := Aside0.mk (below_step HB.out hb_); rw [← NF.out]; clear hb_; clear HB0_) | ((with_reducible refine gate_callee (f := 39) rfl ?_); (with_reducible refine gate_dst (N := 17) rfl ?_); (try (refine gate_guard (by rfl) ?_; dsimp only)); refine goesL_ (some 17) rfl rfl Try.func39 (by kernel_rfl) rfl #[.agg (pg pf)] rfl (by (try simp only [List.map_toArray, List.map_cons, List.map_nil]); first | done | rfl) ?_; (refine (encode_page pf _ IP.out LF.out).mono ?_); rintro e w_b ⟨v_b, rfl, ho_, hb_⟩; refine ⟨_, rfl, ?_⟩; have HB0_ := HB; replace HB := Aside0.mk (below_step HB.out hb_); rw [← NB.out] at ho_; have H_b := Aside0.mk (Kd.R_lower ho_ (below_size HB0_.out)); clear ho_ hb_; obtain ⟨A_b, c_b, e_b⟩ := Kd.R_slice H_b.out; subst e_b; clear HB0_; obtain ⟨g_x, hA_, hgb_, _, _⟩ := R_form H_b.out (by have := LB.out; omega); subst hA_; have GX := Aside0.mk hgb_; clear hgb_; have hcell := Kd.R_cell 0 H_b.out (i : Int) (by omega) (by have := LB.out; have := HI.out; omega); have hc1 : w_b.cell? ⟨g_x, i, none⟩ = some (.int .u8 (rd bx i)) := hcell.1; have hf1 : w_b.frozen? ⟨g_x, i, none⟩ = false := hcell.2; clear hcell))
  have hy := NY.out
  subst hy
  have H3 := R_put' H_b.out i (Go.bits .xor .u8 (rd bx i) d)
  have hls : (bx.set i (Go.bits .xor .u8 (rd bx i) d)).length = bx.length := List.length_set
  rw [← hls] at H3
  clear hls
  replace HB := Aside0.mk (Below.setCell (p := ⟨g_x, i, none⟩) HB.out GX.out (.int .u8 (Go.bits .xor .u8 (rd bx i) d)))
  by_cases hd0 : d = 0
  · have hcall := decode_is (some ⟨g_x, 0, none⟩) c_b (bx.set i (Go.bits .xor .u8 (rd bx i) d)) (w_b.setCell ⟨g_x, i, none⟩ (.int .u8 (Go.bits .xor .u8 (rd bx i) d))) (Kd.R_reads' H3).2.2 (Kd.R_reads' H3).2.1 BY.out pf none (D0.out hd0)
    rw [List.length_set] at hcall
    have HD := Aside0.mk hcall
    have LR := LF
    obtain ⟨pr, hpr⟩ : ∃ p, p = pf := ⟨_, rfl⟩
    rw [← hpr] at HD LR
    have c5 : (d == 0) = true := by simp [hd0]
    have c6 : (d != 0) = false := by simp [hd0]
    clear hcall H3 hd hpr hc1 hf1 H_b hd0
    go_wp2_with (first | ((with_reducible refine gate_callee (f := 37) rfl ?_); (with_reducible refine gate_dst (N := 33) rfl ?_); (try (refine gate_guard (by rfl) ?_; dsimp only)); refine goesL_ (some 33) rfl rfl Try.func37 (by kernel_rfl) rfl #[.slice (some ⟨g_x, 0, none⟩) bx.length c_b] rfl (by (try simp only [List.map_toArray, List.map_cons, List.map_nil]); first | done | rfl) ?_; (refine (HD.out).mono ?_); rintro e w_d ⟨rfl, hb_⟩; refine ⟨_, rfl, ?_⟩; have HB0_ := HB; replace HB := Aside0.mk (below_step HB.out hb_); clear hb_; (try simp only [errW_none, errW_some]); clear HB0_) | ((with_reducible refine gate_dst (N := 10) rfl ?_); (try (refine gate_guard (by rfl) ?_; dsimp only)); refine page_alloc rfl rfl ?_; intro g_q w_q hg_ hp_ hb_; have G_q := Aside0.mk (show w.heap.size ≤ g_q by rw [hg_]; exact below_size HB.out); have P_q := Aside0.mk hp_; replace HB := Aside0.mk (below_step HB.out hb_); clear hg_ hp_ hb_) | ((try (refine gate_guard (by rfl) ?_; dsimp only)); refine page_store rfl rfl (.tmp 10) (.tmp 34) rfl g_q _ pr rfl rfl P_q.out (LR.out) ?_; intro w_s1 hp_ hg_; replace P_q := Aside0.mk hp_; replace HB := Aside0.mk (page_below HB.out hg_ G_q.out); clear hp_ hg_))
    go_ret
    exact ⟨rfl, HB.out⟩
  · have hcall := decode_is (some ⟨g_x, 0, none⟩) c_b (bx.set i (Go.bits .xor .u8 (rd bx i) d)) (w_b.setCell ⟨g_x, i, none⟩ (.int .u8 (Go.bits .xor .u8 (rd bx i) d))) (Kd.R_reads' H3).2.2 (Kd.R_reads' H3).2.1 BY.out none61 (some 4) (DN.out hd0)
    rw [List.length_set] at hcall
    have HD := Aside0.mk hcall
    have LR := Aside0.mk none61_len
    obtain ⟨pr, hpr⟩ : ∃ p, p = none61 := ⟨_, rfl⟩
    rw [← hpr] at HD LR
    have c5 : (d == 0) = false := by simp [hd0]
    have c6 : (d != 0) = true := by simp [hd0]
    clear hcall H3 hd hpr hc1 hf1 H_b hd0
    go_wp2_with (first | ((with_reducible refine gate_callee (f := 37) rfl ?_); (with_reducible refine gate_dst (N := 33) rfl ?_); (try (refine gate_guard (by rfl) ?_; dsimp only)); refine goesL_ (some 33) rfl rfl Try.func37 (by kernel_rfl) rfl #[.slice (some ⟨g_x, 0, none⟩) bx.length c_b] rfl (by (try simp only [List.map_toArray, List.map_cons, List.map_nil]); first | done | rfl) ?_; (refine (HD.out).mono ?_); rintro e w_d ⟨rfl, hb_⟩; refine ⟨_, rfl, ?_⟩; have HB0_ := HB; replace HB := Aside0.mk (below_step HB.out hb_); clear hb_; (try simp only [errW_none, errW_some]); clear HB0_) | ((with_reducible refine gate_dst (N := 10) rfl ?_); (try (refine gate_guard (by rfl) ?_; dsimp only)); refine page_alloc rfl rfl ?_; intro g_q w_q hg_ hp_ hb_; have G_q := Aside0.mk (show w.heap.size ≤ g_q by rw [hg_]; exact below_size HB.out); have P_q := Aside0.mk hp_; replace HB := Aside0.mk (below_step HB.out hb_); clear hg_ hp_ hb_) | ((try (refine gate_guard (by rfl) ?_; dsimp only)); refine page_store rfl rfl (.tmp 10) (.tmp 34) rfl g_q _ pr rfl rfl P_q.out (LR.out) ?_; intro w_s1 hp_ hg_; replace P_q := Aside0.mk hp_; replace HB := Aside0.mk (page_below HB.out hg_ G_q.out); clear hp_ hg_))
    go_ret
    exact ⟨rfl, HB.out⟩
theorem turns5_calls (lsn at_ d : Int) (A : Option Addr) (c : Nat) (ln : List Int) (w : World) (hC : Kd.C (Kd.int .i64) w A ln.length ln) (hc : ln.length ≤ c) (hl : ln.length ≤ 4611686018427387904) (hn : I64 lsn) (hI : ∀ x ∈ ln, I64 x) (hd : 0 ≤ d ∧ d < 256) :
    Calls Try.prog 11 #[.agg #[.int .i64 lsn, .slice A ln.length c, .int .i64 at_, .int .u8 d]] w fun e w' => e = .returned (.bool true) ∧ Below w.heap.size w w' := by
  have HC := Aside0.mk hC
  have LC := Aside0.mk hc
  have IL := Aside0.mk hI
  clear hC hc hI
  go_enter Try.func11, Try.ntmps11
  go_wp2_with (go_at_call 41; (with_reducible refine (slips5 lsn at_ d A c ln _ ?side1 LC.out hl hn IL.out hd).mono ?_); (case side1 => exact Kd.C_alloc HC.out _); rintro e w' ⟨rfl, hb_⟩)
  go_ret
  exact ⟨rfl, below_then (below_alloc (Below.refl _ _) _) (below_size (below_alloc (Below.refl _ _) _)) hb_⟩
end Go.Proofs.Ytbphmpncajfaiaa.K
/- page.Set (function 44). -/
namespace Go.Proofs.Ytbphmpncajfaiaa.K
open Go.RowKit Go.Proofs.Ytbphmpncajfaiaa.M Go.Proofs.Ytbphmpncajfaiaa.Py Go.Proofs.YtbphmpncajfaiaaW.PrintWords Go.Proofs.YtbphmpncajfaiaaW.PrintLast Go.Proofs.YtbphmpncajfaiaaW.PrintMore
set_option linter.unusedVariables false
set_option linter.unusedSimpArgs false
/-- An image's block. -/
def Img (w : World) (g : Nat) (i v : Int) : Prop := w.heap[g]? = some (.cells #[.int .i64 i, .int .i64 v] 84 (0, 0))
theorem Img.below {w w1 : World} {g : Nat} {i v : Int} (h : Img w g i v) (hb : Below w.heap.size w w1) : Img w1 g i v := (hb.block g (Array.getElem?_eq_some_iff.1 h).1).trans h
theorem Img.cell0 {w : World} {g : Nat} {i v : Int} (h : Img w g i v) : w.cell? ⟨g, 0, none⟩ = some (.int .i64 i) := by rw [cell_of_row w g 0 _ _ _ h]; rfl
theorem Img.cell1 {w : World} {g : Nat} {i v : Int} (h : Img w g i v) : w.cell? ⟨g, 1, none⟩ = some (.int .i64 v) := by rw [cell_of_row w g 1 _ _ _ h]; rfl
section
variable {ops : Array Oper} {rest : List Oper} {o : Oper} {a : Act} {Q : Exit → Act → World → Prop}
theorem img_alloc {W : World} (hgd : o.guard = none) (ho : o.op = .alloc 84) (h : ∀ g w1, g = W.heap.size → Img w1 g 0 0 → Below W.heap.size W w1 → wpList Try.prog ops Q rest (a.put o.dst (.pointer (some ⟨g, 0, none⟩))) w1) : wpList Try.prog ops Q (o :: rest) a W := by
  refine Kd.event_run hgd (v := .pointer (some ⟨W.heap.size, 0, none⟩)) (w1 := W.alloc (.cells #[.int .i64 0, .int .i64 0] 84)) ?_ (h _ _ rfl (heap_alloc_new W _) (below_alloc (Below.refl _ _) _))
  have hz : (Try.prog.info? 84).map (·.zero) = some (some (.agg #[.int .i64 0, .int .i64 0])) := by kernel_rfl
  cases hq : Try.prog.info? 84 with
  | none => rw [hq] at hz; cases hz
  | some i =>
    rw [hq] at hz
    simp only [Option.map_some, Option.some.injEq] at hz
    simp [execOp, ho, Instr.alloc, zeroValue, typeInfo, hq, hz, newVar, newRow, Value.cells, Sem.run_bind]
theorem img_store {W : World} (hgd : o.guard = none) (hd : o.dst = none) (x y : Operand) (ho : o.op = .store 84 x y) (g : Nat) (i0 v0 i v : Int) (hx : a.eval x = .pointer (some ⟨g, 0, none⟩)) (hy : a.eval y = .agg #[.int .i64 i, .int .i64 v]) (hp : Img W g i0 v0)
    (h : ∀ w1, Img w1 g i v → W.grownBy w1 (some g) → wpList Try.prog ops Q rest a w1) : wpList Try.prog ops Q (o :: rest) a W := by
  refine wpList_store_row hgd 84 x y ho g #[.int .i64 i, .int .i64 v] hx hy 84 #[.int .i64 i0, .int .i64 v0] hp size84 rfl (by rw [Array.all_eq_true_iff_forall_mem]; intro u hu; simp at hu; rcases hu with rfl | rfl <;> rfl) ?_
  rw [hd]
  exact h _ (setRow_heap W g _ _ _ _ hp) ⟨rfl, rfl, rfl, by simp [World.setRow], fun k hk hne => setRow_other W g k _ (fun e => hne (by rw [e]))⟩
end
theorem img_far {α : Type} {d : Kd α} {e : Nat} {W w1 : World} {g base : Nat} {i v : Int} {xs : List α} {u : Value} {ok : Nat → Prop} (hp : Img W g i v) (h : d.R e W base ok u xs) (ht : ∀ q, q ∈ e :: d.E → q ≠ 84) (hg : W.grownBy w1 (some g)) : d.R e w1 base ok u xs :=
  Kd.R_mono (Kd.R_grown (Kd.R_types h hp ht) hg (fun k hk e => hk.2 (by injection e))) (fun _ hk => hk.1)
theorem img_below {w0 w w1 : World} {g : Nat} (h : Below w0.heap.size w0 w) (hg : w.grownBy w1 (some g)) (hB : w0.heap.size ≤ g) : Below w0.heap.size w0 w1 :=
  Below.grown h hg h.size (fun k e => by injection e with e; omega)
theorem img_at2 {w : World} {A : Option Addr} {n : Nat} {xs : List (Int × Int)} (h : Kd.C kdI w A n xs) (i : Int) (h0 : 0 ≤ i) (h1 : i < n) :
    ∃ ad, A = some ad ∧ w.cell? ((ad.add (i.toNat * 2)).add 0) = some (.int .i64 (xs.getD i.toNat (0, 0)).1) ∧ w.cell? ((ad.add (i.toNat * 2)).add 1) = some (.int .i64 (xs.getD i.toNat (0, 0)).2) := by
  obtain ⟨ad, hA, k0, k1⟩ := img_at h i h0 h1
  exact ⟨ad, hA, by rw [Addr.add_add]; exact k0, by rw [Addr.add_add]; exact k1⟩
/-- A page with other values; an error's number. -/
def setOf : List Int → List (Int × Int) → List Int × Option Int
  | p, [] => (p, none)
  | p, (i, v) :: r => if i < 0 ∨ 60 ≤ i then (none61, some 1) else setOf (p.set (1 + i.toNat) v) r
theorem setOf_len : ∀ (xs : List (Int × Int)) (p : List Int), p.length = 61 → (setOf p xs).1.length = 61
  | [], p, h => h
  | (i, v) :: r, p, h => by
    unfold setOf
    split
    · exact none61_len
    · exact setOf_len r _ (by rw [List.length_set]; exact h)
theorem drop_at {xs : List (Int × Int)} {x : Int} (h0 : 0 ≤ x) (h1 : x < xs.length) : xs.drop x.toNat = xs.getD x.toNat (0, 0) :: xs.drop (x + 1).toNat := by
  rw [show (x + 1).toNat = x.toNat + 1 by omega, List.getD_eq_getElem?_getD, List.getElem?_eq_getElem (by omega)]
  exact List.drop_eq_getElem_cons (by omega)
set_option maxHeartbeats 8000000 in
set_option maxRecDepth 100000 in
theorem set_calls (p : List Int) (A : Option Addr) (c : Nat) (xs : List (Int × Int)) (w : World) (hp : p.length = 61) (hC : Kd.C kdI w A xs.length xs) (hc : xs.length ≤ c) (hl : xs.length ≤ 4611686018427387904) :
    Calls Try.prog 44 #[.agg (pg p), .slice A xs.length c] w fun e w' => e = .returned (.tuple #[.agg (pg (setOf p xs).1), errW (setOf p xs).2]) ∧ Below w.heap.size w w' := by
  have HC := Aside0.mk hC
  have LP := Aside0.mk hp
  have LX := Aside0.mk hl
  have HB := Aside0.mk (Below.refl w.heap.size w)
  clear hC hc hp hl
  go_enter Try.func44, Try.ntmps44
  go_wp2_with (first | ((with_reducible refine gate_dst (N := 2) rfl ?_); (try (refine gate_guard (by rfl) ?_; dsimp only)); refine page_box rfl _ rfl p (LP.out) rfl ?_; intro g_a w_a hg_ hp_ hb_; have G_a := Aside0.mk (show w.heap.size ≤ g_a by rw [hg_]; exact below_size HB.out); have P_a := Aside0.mk hp_; replace HB := Aside0.mk (below_step HB.out hb_); clear hg_ hp_ hb_) | ((with_reducible refine gate_dst (N := 4) rfl ?_); (try (refine gate_guard (by rfl) ?_; dsimp only)); refine page_alloc rfl rfl ?_; intro g_b w_b hg_ hp_ hb_; have G_b := Aside0.mk (show w.heap.size ≤ g_b by rw [hg_]; exact below_size HB.out); have NE_a_b := Aside0.mk (show g_a < g_b by rw [hg_]; exact P_a.out.lt); replace P_a := Aside0.mk (P_a.out.below hb_); have P_b := Aside0.mk hp_; replace HB := Aside0.mk (below_step HB.out hb_); clear hg_ hp_ hb_))
  go_loopg [12] xs.length (fun kq v12 w' => ∃ (x : Int) (q : List Int), v12 = .int .i64 x ∧ Aside0 (0 ≤ x ∧ x ≤ xs.length ∧ kq + x.toNat = xs.length) ∧ Aside0 (q.length = 61 ∧ setOf p xs = setOf q (xs.drop x.toNat)) ∧ Aside0 (Page w' g_a q) ∧ Aside0 (Page w' g_b (List.replicate 61 0)) ∧ Aside0 (Below w.heap.size w w'))
  case atStart => exact ⟨0, p, rfl, ⟨by omega⟩, ⟨LP.out, rfl⟩, P_a, P_b, HB⟩
  case round =>
    clear P_a P_b HB
    obtain ⟨x, q, rfl, HX, HQ, P_a, P_b, HB⟩ := hrel
    obtain ⟨hx0, hx1, hxk⟩ := HX.out
    by_cases hlt : x < xs.length
    · obtain ⟨k1, rfl⟩ : ∃ k1, gk = k1 + 1 := ⟨gk - 1, by omega⟩
      have HXK := Aside0.mk hxk
      have c1 : decide (x < (xs.length : Int)) = true := decide_eq_true hlt
      have q0 := eq_true hx0
      have q1 := eq_true hlt
      have ew : wrap64 (x + 1) = x + 1 := by have := LX.out; unfold wrap64; omega
      clear hxk HX
      obtain ⟨ad, hA, h0_, h1_⟩ := img_at2 (Kd.C_below HC.out HB.out) x hx0 (by omega)
      have hd := drop_at hx0 hlt
      obtain ⟨⟨i, v⟩, hiv⟩ : ∃ y, y = xs.getD x.toNat (0, 0) := ⟨_, rfl⟩
      rw [← hiv] at h0_ h1_ hd
      have HD := Aside0.mk hd
      subst hA
      clear hiv hd
      have h0 := Aside0.mk h0_
      have h1 := Aside0.mk h1_
      clear h0_ h1_
      by_cases hr : i < 0 ∨ 60 ≤ i
      · have GE := Aside0.mk (show getOf q i = (0, false) by unfold getOf; rw [if_pos hr])
        have RES := Aside0.mk (show setOf p xs = (none61, some 1) by rw [HQ.out.2, HD.out]; unfold setOf; rw [if_pos hr])
        obtain ⟨z, hz⟩ : ∃ z, z = none61 := ⟨_, rfl⟩
        have NZ := Aside0.mk hz
        clear hr hz
        go_wp2_with (first | ((with_reducible refine gate_dst (N := 15) rfl ?_); (try (refine gate_guard (by rfl) ?_; dsimp only)); refine img_load rfl _ rfl _ i v rfl h0.out h1.out ?_) | ((with_reducible refine gate_dst (N := 7) rfl ?_); (try (refine gate_guard (by rfl) ?_; dsimp only)); refine img_alloc rfl rfl ?_; intro g_t w_t hg_ hp_ hb_; have G_t := Aside0.mk (show w.heap.size ≤ g_t by rw [hg_]; exact below_size HB.out); have NE_a_t := Aside0.mk (show g_a < g_t by rw [hg_]; exact P_a.out.lt); have NE_b_t := Aside0.mk (show g_b < g_t by rw [hg_]; exact P_b.out.lt); replace P_a := Aside0.mk (P_a.out.below hb_); replace P_b := Aside0.mk (P_b.out.below hb_); have I_t := Aside0.mk hp_; replace HB := Aside0.mk (below_step HB.out hb_); clear hg_ hp_ hb_) | ((try (refine gate_guard (by rfl) ?_; dsimp only)); refine img_store rfl rfl (.tmp 7) (.tmp 15) rfl g_t _ _ i v rfl rfl I_t.out ?_; intro w_st hp_ hg_; replace P_a := Aside0.mk (P_a.out.grown hg_ (fun e => by injection e with e; have := NE_a_t.out; omega)); replace P_b := Aside0.mk (P_b.out.grown hg_ (fun e => by injection e with e; have := NE_b_t.out; omega)); replace I_t := Aside0.mk hp_; replace HB := Aside0.mk (img_below HB.out hg_ G_t.out); have hi0 := I_t.out.cell0; clear hp_ hg_) | ((with_reducible refine gate_dst (N := 17) rfl ?_); (try (refine gate_guard (by rfl) ?_; dsimp only)); refine page_load rfl _ rfl g_a _ rfl P_a.out ?_) | ((with_reducible refine gate_callee (f := 42) rfl ?_); (with_reducible refine gate_dst (N := 20) rfl ?_); (try (refine gate_guard (by rfl) ?_; dsimp only)); refine goesL_ (some 20) rfl rfl Try.func42 (by kernel_rfl) rfl #[.agg (pg q), .int .i64 i] rfl (by (try simp only [List.map_toArray, List.map_cons, List.map_nil]); first | done | rfl) ?_; (refine (get_calls q i _ HQ.out.1).mono ?_); rintro e w_g ⟨rfl, hb_⟩; refine ⟨_, rfl, ?_⟩; have HB0_ := HB; replace P_a := Aside0.mk (P_a.out.below hb_); replace P_b := Aside0.mk (P_b.out.below hb_); replace I_t := Aside0.mk (I_t.out.below hb_); replace HB := Aside0.mk (below_step HB.out hb_); rw [GE.out]; clear hb_ hi0; clear HB0_) | ((with_reducible refine gate_dst (N := 25) rfl ?_); (try (refine gate_guard (by rfl) ?_; dsimp only)); refine page_blank rfl rfl z (NZ.out) ?_) | ((try (refine gate_guard (by rfl) ?_; dsimp only)); refine page_store rfl rfl (.tmp 4) (.tmp 25) rfl g_b _ z rfl rfl P_b.out (by rw [NZ.out]; exact none61_len) ?_; intro w_s1 hp_ hg_; replace P_a := Aside0.mk (P_a.out.grown hg_ (fun e => by injection e with e; have := NE_a_b.out; omega)); replace P_b := Aside0.mk hp_; replace HB := Aside0.mk (page_below HB.out hg_ G_b.out); clear hp_ hg_))
        refine bodyPost_ret (results_page (p := 4) (q := 5) rfl _ _ g_b z _ rfl rfl P_b.out) rfl ?_
        exact ⟨by rw [RES.out, NZ.out]; rfl, HB.out⟩
      · have GE := Aside0.mk (show getOf q i = (rd q (i + 1), true) by unfold getOf; rw [if_neg hr])
        have i0 : 0 ≤ i := by omega
        have i1 : i < 60 := by omega
        have NX := Aside0.mk (show setOf p xs = setOf (q.set (1 + i.toNat) v) (xs.drop (x + 1).toNat) by rw [HQ.out.2, HD.out, setOf, if_neg hr])
        have PA := Aside0.mk (page_at HQ.out.1 i0 i1)
        clear hr
        go_wp2_with (first | ((with_reducible refine gate_dst (N := 15) rfl ?_); (try (refine gate_guard (by rfl) ?_; dsimp only)); refine img_load rfl _ rfl _ i v rfl h0.out h1.out ?_) | ((with_reducible refine gate_dst (N := 7) rfl ?_); (try (refine gate_guard (by rfl) ?_; dsimp only)); refine img_alloc rfl rfl ?_; intro g_t w_t hg_ hp_ hb_; have G_t := Aside0.mk (show w.heap.size ≤ g_t by rw [hg_]; exact below_size HB.out); have NE_a_t := Aside0.mk (show g_a < g_t by rw [hg_]; exact P_a.out.lt); have NE_b_t := Aside0.mk (show g_b < g_t by rw [hg_]; exact P_b.out.lt); replace P_a := Aside0.mk (P_a.out.below hb_); replace P_b := Aside0.mk (P_b.out.below hb_); have I_t := Aside0.mk hp_; replace HB := Aside0.mk (below_step HB.out hb_); clear hg_ hp_ hb_) | ((try (refine gate_guard (by rfl) ?_; dsimp only)); refine img_store rfl rfl (.tmp 7) (.tmp 15) rfl g_t _ _ i v rfl rfl I_t.out ?_; intro w_st hp_ hg_; replace P_a := Aside0.mk (P_a.out.grown hg_ (fun e => by injection e with e; have := NE_a_t.out; omega)); replace P_b := Aside0.mk (P_b.out.grown hg_ (fun e => by injection e with e; have := NE_b_t.out; omega)); replace I_t := Aside0.mk hp_; replace HB := Aside0.mk (img_below HB.out hg_ G_t.out); have hi0 := I_t.out.cell0; clear hp_ hg_) | ((with_reducible refine gate_dst (N := 17) rfl ?_); (try (refine gate_guard (by rfl) ?_; dsimp only)); refine page_load rfl _ rfl g_a _ rfl P_a.out ?_) | ((with_reducible refine gate_callee (f := 42) rfl ?_); (with_reducible refine gate_dst (N := 20) rfl ?_); (try (refine gate_guard (by rfl) ?_; dsimp only)); refine goesL_ (some 20) rfl rfl Try.func42 (by kernel_rfl) rfl #[.agg (pg q), .int .i64 i] rfl (by (try simp only [List.map_toArray, List.map_cons, List.map_nil]); first | done | rfl) ?_; (refine (get_calls q i _ HQ.out.1).mono ?_); rintro e w_g ⟨rfl, hb_⟩; refine ⟨_, rfl, ?_⟩; have HB0_ := HB; replace P_a := Aside0.mk (P_a.out.below hb_); replace P_b := Aside0.mk (P_b.out.below hb_); replace I_t := Aside0.mk (I_t.out.below hb_); replace HB := Aside0.mk (below_step HB.out hb_); rw [GE.out]; clear hb_ hi0; have hi0 := I_t.out.cell0; have hi1 := I_t.out.cell1; have hpc := P_a.out.cell (1 + i.toNat) _ PA.out; have hpf := P_a.out.free (1 + i.toNat); clear HB0_))
        have hg_ := grown_setCell w_g g_a (1 + i.toNat) (.int .i64 (v)); replace P_b := Aside0.mk (P_b.out.grown hg_ (fun e => by injection e with e; have := NE_a_b.out; omega)); replace P_a := Aside0.mk (P_a.out.set (1 + i.toNat) v); replace HB := Aside0.mk (page_below HB.out hg_ G_a.out); clear hg_
        go_roundg k1
        case measure => omega
        case rel => exact ⟨x + 1, _, rfl, ⟨by have := HXK.out; omega⟩, ⟨by rw [List.length_set]; exact HQ.out.1, NX.out⟩, P_a, P_b, HB⟩
    · have c1 : decide (x < (xs.length : Int)) = false := decide_eq_false hlt
      obtain rfl : x = xs.length := by omega
      have RES := Aside0.mk (show setOf p xs = (q, none) by rw [HQ.out.2, Int.toNat_natCast, List.drop_length]; rfl)
      clear hxk HX
      go_wp2_with (first | ((with_reducible refine gate_dst (N := 34) rfl ?_); (try (refine gate_guard (by rfl) ?_; dsimp only)); refine page_load rfl _ rfl g_a _ rfl P_a.out ?_) | ((try (refine gate_guard (by rfl) ?_; dsimp only)); refine page_store rfl rfl (.tmp 4) (.tmp 34) rfl g_b _ q rfl rfl P_b.out (HQ.out.1) ?_; intro w_s1 hp_ hg_; replace P_a := Aside0.mk (P_a.out.grown hg_ (fun e => by injection e with e; have := NE_a_b.out; omega)); replace P_b := Aside0.mk hp_; replace HB := Aside0.mk (page_below HB.out hg_ G_b.out); clear hp_ hg_))
      refine bodyPost_ret (results_page (p := 4) (q := 5) rfl _ _ g_b q _ rfl rfl P_b.out) rfl ?_
      exact ⟨by rw [RES.out]; rfl, HB.out⟩
end Go.Proofs.Ytbphmpncajfaiaa.K
/- order of the law of pages (function 45): of images of one cell the last one counts. -/
namespace Go.Proofs.Ytbphmpncajfaiaa.K
open Go.RowKit Go.Proofs.Ytbphmpncajfaiaa.M Go.Proofs.Ytbphmpncajfaiaa.Py Go.Proofs.YtbphmpncajfaiaaW.PrintWords Go.Proofs.YtbphmpncajfaiaaW.PrintLast Go.Proofs.YtbphmpncajfaiaaW.PrintMore
set_option linter.unusedVariables false
set_option linter.unusedSimpArgs false
theorem built84' (i : Int) : Try.prog.built 84 [(0, .int .i64 i)] = some #[.int .i64 i, .int .i64 0] := by kernel_rfl
section
variable {ops : Array Oper} {rest : List Oper} {o : Oper} {a : Act} {Q : Exit → Act → World → Prop}
theorem img_build1 {W : World} (hgd : o.guard = none) (x : Operand) (i : Int) (ho : o.op = .build 84 #[(0, x)]) (hx : a.eval x = .int .i64 i) (h : wpList Try.prog ops Q rest (a.put o.dst (.agg #[.int .i64 i, .int .i64 0])) W) : wpList Try.prog ops Q (o :: rest) a W := by
  refine Kd.event_run hgd (v := .agg #[.int .i64 i, .int .i64 0]) (w1 := W) ?_ h
  have := run_build (P := Try.prog) W 84 #[(0, .int .i64 i)] _ (built84' i)
  simp [execOp, ho, hx, this, Sem.run_bind]
end
theorem rd_set_ne (l : List Int) (k : Nat) (v : Int) (i : Int) (h : i.toNat ≠ k) : rd (l.set k v) i = rd l i := by
  unfold rd
  rw [List.getD_eq_getElem?_getD, List.getD_eq_getElem?_getD, List.getElem?_set_ne (by omega)]
theorem diff_one (l : List Int) (k : Nat) (v : Int) : ∀ x : Nat, (diffOf (l.set k v) l x).length ≤ if k < x then 1 else 0
  | 0 => by simp [diffOf]
  | x + 1 => by
    have ih := diff_one l k v x
    have hl : ∀ (c : Prop) [Decidable c] (y : Int × Int), (if c then [y] else []).length ≤ 1 := by
      intro c _ y
      split <;> simp
    rw [diff_succ, List.length_append]
    by_cases h : x = k
    · subst h
      rw [if_neg (show ¬ x < x by omega)] at ih
      rw [if_pos (show x < x + 1 by omega)]
      have := hl (rd (l.set x v) (x : Int) ≠ rd l (x : Int)) ((x : Int), rd (l.set x v) (x : Int))
      omega
    · have hn : ¬ (rd (l.set k v) (x : Int) ≠ rd l (x : Int)) := by rw [rd_set_ne l k v (x : Int) (by omega)]; simp
      rw [if_neg hn, List.length_nil]
      by_cases h2 : k < x
      · rw [if_pos h2] at ih; rw [if_pos (show k < x + 1 by omega)]; omega
      · rw [if_neg h2] at ih; rw [if_neg (show ¬ k < x + 1 by omega)]; omega
theorem diff_set (m : Int) (l : List Int) (k : Nat) (v : Int) : (diffP ((m :: l).set (1 + k) v) (m :: l)).length ≤ 1 := by
  unfold diffP
  rw [show 1 + k = k + 1 by omega, List.set_cons_succ, List.tail_cons, List.tail_cons]
  have := diff_one l k v 60
  split at this <;> omega
set_option maxHeartbeats 8000000 in
set_option maxRecDepth 100000 in
theorem order_true (at_ a b : Int) (A : Option Addr) (c : Nat) (ln : List Int) (w : World) (hC : Kd.C (Kd.int .i64) w A ln.length ln) (hc : ln.length ≤ c) (hl : ln.length ≤ 4611686018427387904) :
    Calls Try.prog 45 #[.slice A ln.length c, .int .i64 at_, .int .i64 a, .int .i64 b] w fun e w' => e = .returned (.bool true) ∧ Below w.heap.size w w' := by
  have CC := Aside0.mk hC
  have LC := Aside0.mk hc
  have SC := Aside0.mk hl
  have HB := Aside0.mk (Below.refl w.heap.size w)
  have heq := eql49
  obtain ⟨pf, hpf⟩ : ∃ p, p = full 4 ln := ⟨_, rfl⟩
  obtain ⟨i, hi, hat⟩ := u64_mod at_ 60 (by decide) (by decide)
  obtain ⟨q1, hq1⟩ : ∃ q, q = pf.set (1 + i) b := ⟨_, rfl⟩
  obtain ⟨nn, hnn⟩ : ∃ q, q = none61 := ⟨_, rfl⟩
  obtain ⟨y1, hy1⟩ : ∃ y : List (Int × Int), y = [((i : Int), a), ((i : Int), b)] := ⟨_, rfl⟩
  obtain ⟨y3, hy3⟩ : ∃ y : List (Int × Int), y = [((i : Int), a), (60 + (i : Int), 0)] := ⟨_, rfl⟩
  obtain ⟨d, hd⟩ : ∃ d, d = diffP q1 pf := ⟨_, rfl⟩
  have hi' : i < 60 := by omega
  have NF := Aside0.mk hpf
  have LF := Aside0.mk (show pf.length = 61 by rw [hpf]; simp [full])
  have LQ := Aside0.mk (show q1.length = 61 by rw [hq1, List.length_set]; exact LF.out)
  have LN := Aside0.mk (show nn.length = 61 by rw [hnn]; exact none61_len)
  have N1 := Aside0.mk hy1
  have N3 := Aside0.mk hy3
  have ND := Aside0.mk hd
  have S1 := Aside0.mk (show setOf pf y1 = (q1, none) by
    rw [hy1, setOf, if_neg (by omega), setOf, if_neg (by omega), setOf, Int.toNat_natCast, List.set_set, hq1])
  have S2 := Aside0.mk (show setOf pf [] = (pf, none) from rfl)
  have S3 := Aside0.mk (show setOf pf y3 = (nn, some 1) by
    rw [hy3, setOf, if_neg (by omega), setOf, if_pos (by omega), hnn])
  have QB := Aside0.mk (show q1[1 + i]? = some b by rw [hq1, List.getElem?_set_self (by rw [LF.out]; omega)])
  have e2 : decide ((d.length : Int) ≤ 1) = true := by
    apply decide_eq_true
    have hs : pf = 4 :: pf.tail := by rw [hpf]; rfl
    have := diff_set 4 pf.tail i b
    rw [← hs, ← hq1, ← hd] at this
    omega
  have e3 : wrap64 (60 + (i : Int)) = 60 + (i : Int) := by unfold wrap64; omega
  have q0 : 0 ≤ (i : Int) := by omega
  have q9 : (i : Int) < 60 := hi
  have e4 : (b == b) = true := by simp
  clear hC hc hl hpf hq1 hnn hy1 hy3 hd hi'
  go_enter Try.func45, Try.ntmps45
  go_wp2_with (first | ((with_reducible refine gate_callee (f := 35) rfl ?_); (with_reducible refine gate_dst (N := 17) rfl ?_); (try (refine gate_guard (by rfl) ?_; dsimp only)); refine goesL_ (some 17) rfl rfl Try.func35 (by kernel_rfl) rfl #[] rfl (by (try simp only [List.map_toArray, List.map_cons, List.map_nil]); first | done | rfl) ?_; (refine (alive5_calls _).mono ?_); rintro e w_al ⟨rfl, hb_⟩; refine ⟨_, rfl, ?_⟩; have HB0_ := HB; replace HB := Aside0.mk (below_step HB.out hb_); clear hb_; clear HB0_) | ((with_reducible refine gate_callee (f := 36) rfl ?_); (with_reducible refine gate_dst (N := 20) rfl ?_); (try (refine gate_guard (by rfl) ?_; dsimp only)); refine goesL_ (some 20) rfl rfl Try.func36 (by kernel_rfl) rfl #[.int .i64 (4), .slice A ln.length c] rfl (by (try simp only [List.map_toArray, List.map_cons, List.map_nil]); first | done | rfl) ?_; (refine (filled_calls (4) A c ln _ ?side1 ?side2 ?side3).mono ?_); (case side1 => exact Kd.C_below CC.out HB.out); (case side2 => exact LC.out); (case side3 => exact SC.out); rintro e w_f ⟨rfl, hb_⟩; refine ⟨_, rfl, ?_⟩; have HB0_ := HB; replace HB := Aside0.mk (below_step HB.out hb_); rw [← NF.out]; clear hb_; clear HB0_) | ((with_reducible refine gate_dst (N := 9) rfl ?_); (try (refine gate_guard (by rfl) ?_; dsimp only)); refine page_alloc rfl rfl ?_; intro g_p w_p hg_ hp_ hb_; have G_p := Aside0.mk (show w.heap.size ≤ g_p by rw [hg_]; exact below_size HB.out); have P_p := Aside0.mk hp_; replace HB := Aside0.mk (below_step HB.out hb_); clear hg_ hp_ hb_) | ((try (refine gate_guard (by rfl) ?_; dsimp only)); refine page_store rfl rfl (.tmp 9) (.tmp 20) rfl g_p _ pf rfl rfl P_p.out (LF.out) ?_; intro w_s1 hp_ hg_; replace P_p := Aside0.mk hp_; replace HB := Aside0.mk (page_below HB.out hg_ G_p.out); clear hp_ hg_) | ((with_reducible refine gate_dst (N := 26) rfl ?_); (try (refine gate_guard (by rfl) ?_; dsimp only)); refine page_load rfl _ rfl g_p _ rfl P_p.out ?_) | ((with_reducible refine gate_dst (N := 29) rfl ?_); (try (refine gate_guard (by rfl) ?_; dsimp only)); refine img_build rfl _ _ (i : Int) a rfl rfl rfl ?_) | ((with_reducible refine gate_dst (N := 32) rfl ?_); (try (refine gate_guard (by rfl) ?_; dsimp only)); refine img_build rfl _ _ (i : Int) b rfl rfl rfl ?_) | ((with_reducible refine gate_dst (N := 33) rfl ?_); (try (refine gate_guard (by rfl) ?_; dsimp only)); refine C_lit kdI 84 ?hg (N := 33) ?hd (xs := [((i : Int), a), ((i : Int), b)]) (inner := [.int .i64 ((i : Int)), .int .i64 (a), .int .i64 ((i : Int)), .int .i64 (b)]) ?hr ?hp (by simp) ?_; (case hd => rfl); (case hg => rfl); (case hr => first | (go_simp; done) | (go_simp; rfl)); (case hp => exact (Reps.c2 (show kdI.K _ ((i : Int), a) [.int .i64 ((i : Int)), .int .i64 (a)] from ⟨[_], [_], rfl, rfl, rfl⟩) (Reps.c2 (show kdI.K _ ((i : Int), b) [.int .i64 ((i : Int)), .int .i64 (b)] from ⟨[_], [_], rfl, rfl, rfl⟩) (Reps.none _ _)))); intro w_y1 A_y1 c_y1 hc_ l_y1 hb_; rw [← N1.out] at hc_ l_y1 ⊢; replace P_p := Aside0.mk (P_p.out.below hb_); replace HB := Aside0.mk (below_step HB.out hb_); have C_y1 := Aside0.mk hc_; have L_y1 := Aside0.mk l_y1; clear hc_ hb_ l_y1) | ((with_reducible refine gate_callee (f := 44) rfl ?_); (with_reducible refine gate_dst (N := 34) rfl ?_); (try (refine gate_guard (by rfl) ?_; dsimp only)); refine goesL_ (some 34) rfl rfl Try.func44 (by kernel_rfl) rfl #[.agg (pg pf), .slice A_y1 y1.length c_y1] rfl (by (try simp only [List.map_toArray, List.map_cons, List.map_nil]); first | done | rfl) ?_; (refine (set_calls pf A_y1 c_y1 y1 _ (LF.out) ?side1 ?side2 (by rw [N1.out]; simp)).mono ?_); (case side1 => exact C_y1.out); (case side2 => exact L_y1.out); rintro e w_x1 ⟨rfl, hb_⟩; refine ⟨_, rfl, ?_⟩; have HB0_ := HB; replace P_p := Aside0.mk (P_p.out.below hb_); replace HB := Aside0.mk (below_step HB.out hb_); rw [S1.out]; clear hb_; (try simp only [errW_none, errW_some]); clear HB0_) | ((with_reducible refine gate_dst (N := 11) rfl ?_); (try (refine gate_guard (by rfl) ?_; dsimp only)); refine page_alloc rfl rfl ?_; intro g_q w_q hg_ hp_ hb_; have G_q := Aside0.mk (show w.heap.size ≤ g_q by rw [hg_]; exact below_size HB.out); have NE_p_q := Aside0.mk (show g_p < g_q by rw [hg_]; exact P_p.out.lt); replace P_p := Aside0.mk (P_p.out.below hb_); have P_q := Aside0.mk hp_; replace HB := Aside0.mk (below_step HB.out hb_); clear hg_ hp_ hb_) | ((try (refine gate_guard (by rfl) ?_; dsimp only)); refine page_store rfl rfl (.tmp 11) (.tmp 35) rfl g_q _ q1 rfl rfl P_q.out (LQ.out) ?_; intro w_s2 hp_ hg_; replace P_p := Aside0.mk (P_p.out.grown hg_ (fun e => by injection e with e; have := NE_p_q.out; omega)); replace P_q := Aside0.mk hp_; replace HB := Aside0.mk (page_below HB.out hg_ G_q.out); clear hp_ hg_) | ((with_reducible refine gate_dst (N := 38) rfl ?_); (try (refine gate_guard (by rfl) ?_; dsimp only)); refine page_load rfl _ rfl g_p _ rfl P_p.out ?_) | ((with_reducible refine gate_callee (f := 44) rfl ?_); (with_reducible refine gate_dst (N := 39) rfl ?_); (try (refine gate_guard (by rfl) ?_; dsimp only)); refine goesL_ (some 39) rfl rfl Try.func44 (by kernel_rfl) rfl #[.agg (pg pf), .slice none 0 0] rfl (by (try simp only [List.map_toArray, List.map_cons, List.map_nil]); first | done | rfl) ?_; (refine (set_calls pf none 0 [] _ LF.out ?side1 ?side2 (by simp)).mono ?_); (case side1 => exact Kd.C_nil _ _); (case side2 => exact Nat.le_refl _); rintro e w_x2 ⟨rfl, hb_⟩; refine ⟨_, rfl, ?_⟩; have HB0_ := HB; replace P_p := Aside0.mk (P_p.out.below hb_); replace P_q := Aside0.mk (P_q.out.below hb_); replace HB := Aside0.mk (below_step HB.out hb_); rw [S2.out]; clear hb_; (try simp only [errW_none, errW_some]); clear HB0_) | ((with_reducible refine gate_dst (N := 13) rfl ?_); (try (refine gate_guard (by rfl) ?_; dsimp only)); refine page_alloc rfl rfl ?_; intro g_r w_r hg_ hp_ hb_; have G_r := Aside0.mk (show w.heap.size ≤ g_r by rw [hg_]; exact below_size HB.out); have NE_p_r := Aside0.mk (show g_p < g_r by rw [hg_]; exact P_p.out.lt); have NE_q_r := Aside0.mk (show g_q < g_r by rw [hg_]; exact P_q.out.lt); replace P_p := Aside0.mk (P_p.out.below hb_); replace P_q := Aside0.mk (P_q.out.below hb_); have P_r := Aside0.mk hp_; replace HB := Aside0.mk (below_step HB.out hb_); clear hg_ hp_ hb_) | ((try (refine gate_guard (by rfl) ?_; dsimp only)); refine page_store rfl rfl (.tmp 13) (.tmp 40) rfl g_r _ pf rfl rfl P_r.out (LF.out) ?_; intro w_s3 hp_ hg_; replace P_p := Aside0.mk (P_p.out.grown hg_ (fun e => by injection e with e; have := NE_p_r.out; omega)); replace P_q := Aside0.mk (P_q.out.grown hg_ (fun e => by injection e with e; have := NE_q_r.out; omega)); replace P_r := Aside0.mk hp_; replace HB := Aside0.mk (page_below HB.out hg_ G_r.out); clear hp_ hg_) | ((with_reducible refine gate_dst (N := 43) rfl ?_); (try (refine gate_guard (by rfl) ?_; dsimp only)); refine page_load rfl _ rfl g_p _ rfl P_p.out ?_) | ((with_reducible refine gate_dst (N := 46) rfl ?_); (try (refine gate_guard (by rfl) ?_; dsimp only)); refine img_build rfl _ _ (i : Int) a rfl rfl rfl ?_) | ((with_reducible refine gate_dst (N := 49) rfl ?_); (try (refine gate_guard (by rfl) ?_; dsimp only)); refine img_build1 rfl _ (60 + (i : Int)) rfl rfl ?_) | ((with_reducible refine gate_dst (N := 50) rfl ?_); (try (refine gate_guard (by rfl) ?_; dsimp only)); refine C_lit kdI 84 ?hg (N := 50) ?hd (xs := [((i : Int), a), (60 + (i : Int), 0)]) (inner := [.int .i64 ((i : Int)), .int .i64 (a), .int .i64 (60 + (i : Int)), .int .i64 (0)]) ?hr ?hp (by simp) ?_; (case hd => rfl); (case hg => rfl); (case hr => first | (go_simp; done) | (go_simp; rfl)); (case hp => exact (Reps.c2 (show kdI.K _ ((i : Int), a) [.int .i64 ((i : Int)), .int .i64 (a)] from ⟨[_], [_], rfl, rfl, rfl⟩) (Reps.c2 (show kdI.K _ (60 + (i : Int), 0) [.int .i64 (60 + (i : Int)), .int .i64 (0)] from ⟨[_], [_], rfl, rfl, rfl⟩) (Reps.none _ _)))); intro w_y3 A_y3 c_y3 hc_ l_y3 hb_; rw [← N3.out] at hc_ l_y3 ⊢; replace P_p := Aside0.mk (P_p.out.below hb_); replace P_q := Aside0.mk (P_q.out.below hb_); replace P_r := Aside0.mk (P_r.out.below hb_); replace HB := Aside0.mk (below_step HB.out hb_); have C_y3 := Aside0.mk hc_; have L_y3 := Aside0.mk l_y3; clear hc_ hb_ l_y3) | ((with_reducible refine gate_callee (f := 44) rfl ?_); (with_reducible refine gate_dst (N := 51) rfl ?_); (try (refine gate_guard (by rfl) ?_; dsimp only)); refine goesL_ (some 51) rfl rfl Try.func44 (by kernel_rfl) rfl #[.agg (pg pf), .slice A_y3 y3.length c_y3] rfl (by (try simp only [List.map_toArray, List.map_cons, List.map_nil]); first | done | rfl) ?_; (refine (set_calls pf A_y3 c_y3 y3 _ (LF.out) ?side1 ?side2 (by rw [N3.out]; simp)).mono ?_); (case side1 => exact C_y3.out); (case side2 => exact L_y3.out); rintro e w_x3 ⟨rfl, hb_⟩; refine ⟨_, rfl, ?_⟩; have HB0_ := HB; replace P_p := Aside0.mk (P_p.out.below hb_); replace P_q := Aside0.mk (P_q.out.below hb_); replace P_r := Aside0.mk (P_r.out.below hb_); replace HB := Aside0.mk (below_step HB.out hb_); rw [S3.out]; clear hb_; (try simp only [errW_none, errW_some]); clear HB0_) | ((with_reducible refine gate_dst (N := 15) rfl ?_); (try (refine gate_guard (by rfl) ?_; dsimp only)); refine page_alloc rfl rfl ?_; intro g_s w_s hg_ hp_ hb_; have G_s := Aside0.mk (show w.heap.size ≤ g_s by rw [hg_]; exact below_size HB.out); have NE_p_s := Aside0.mk (show g_p < g_s by rw [hg_]; exact P_p.out.lt); have NE_q_s := Aside0.mk (show g_q < g_s by rw [hg_]; exact P_q.out.lt); have NE_r_s := Aside0.mk (show g_r < g_s by rw [hg_]; exact P_r.out.lt); replace P_p := Aside0.mk (P_p.out.below hb_); replace P_q := Aside0.mk (P_q.out.below hb_); replace P_r := Aside0.mk (P_r.out.below hb_); have P_s := Aside0.mk hp_; replace HB := Aside0.mk (below_step HB.out hb_); clear hg_ hp_ hb_) | ((try (refine gate_guard (by rfl) ?_; dsimp only)); refine page_store rfl rfl (.tmp 15) (.tmp 52) rfl g_s _ nn rfl rfl P_s.out (LN.out) ?_; intro w_s4 hp_ hg_; replace P_p := Aside0.mk (P_p.out.grown hg_ (fun e => by injection e with e; have := NE_p_s.out; omega)); replace P_q := Aside0.mk (P_q.out.grown hg_ (fun e => by injection e with e; have := NE_q_s.out; omega)); replace P_r := Aside0.mk (P_r.out.grown hg_ (fun e => by injection e with e; have := NE_r_s.out; omega)); replace P_s := Aside0.mk hp_; replace HB := Aside0.mk (page_below HB.out hg_ G_s.out); clear hp_ hg_; have hcq := P_q.out.cell (1 + i) b QB.out) | ((with_reducible refine gate_dst (N := 74) rfl ?_); (try (refine gate_guard (by rfl) ?_; dsimp only)); refine page_load rfl _ rfl g_r _ rfl P_r.out ?_) | ((with_reducible refine gate_dst (N := 75) rfl ?_); (try (refine gate_guard (by rfl) ?_; dsimp only)); refine page_load rfl _ rfl g_p _ rfl P_p.out ?_) | ((with_reducible refine gate_dst (N := 76) rfl ?_); (try (refine gate_guard (by rfl) ?_; dsimp only)); refine page_eql rfl _ _ rfl pf pf rfl rfl (LF.out) (LF.out) true (decide_eq_true rfl) ?_) | ((with_reducible refine gate_dst (N := 79) rfl ?_); (try (refine gate_guard (by rfl) ?_; dsimp only)); refine page_load rfl _ rfl g_q _ rfl P_q.out ?_) | ((with_reducible refine gate_dst (N := 80) rfl ?_); (try (refine gate_guard (by rfl) ?_; dsimp only)); refine page_load rfl _ rfl g_p _ rfl P_p.out ?_) | ((with_reducible refine gate_callee (f := 43) rfl ?_); (with_reducible refine gate_dst (N := 81) rfl ?_); (try (refine gate_guard (by rfl) ?_; dsimp only)); refine goesL_ (some 81) rfl rfl Try.func43 (by kernel_rfl) rfl #[.agg (pg q1), .agg (pg pf)] rfl (by (try simp only [List.map_toArray, List.map_cons, List.map_nil]); first | done | rfl) ?_; (refine (diff_page q1 pf _ (LQ.out) (LF.out)).mono ?_); rintro e w_df ⟨v_df, rfl, ho_, hb_⟩; refine ⟨_, rfl, ?_⟩; have HB0_ := HB; replace P_p := Aside0.mk (P_p.out.below hb_); replace P_q := Aside0.mk (P_q.out.below hb_); replace P_r := Aside0.mk (P_r.out.below hb_); replace P_s := Aside0.mk (P_s.out.below hb_); replace HB := Aside0.mk (below_step HB.out hb_); rw [← ND.out] at ho_; have H_df := Aside0.mk (Kd.R_lower ho_ (below_size HB0_.out)); clear ho_ hb_; obtain ⟨A_df, c_df, e_df⟩ := Kd.R_slice H_df.out; subst e_df; clear HB0_))
  go_ret
  exact ⟨rfl, HB.out⟩
theorem last_calls (at_ a b : Int) (A : Option Addr) (c : Nat) (ln : List Int) (w : World) (hC : Kd.C (Kd.int .i64) w A ln.length ln) (hc : ln.length ≤ c) (hl : ln.length ≤ 4611686018427387904) :
    Calls Try.prog 14 #[.agg #[.slice A ln.length c, .int .i64 at_, .int .i64 a, .int .i64 b]] w fun e w' => e = .returned (.bool true) ∧ Below w.heap.size w w' := by
  have HC := Aside0.mk hC
  have LC := Aside0.mk hc
  clear hC hc
  go_enter Try.func14, Try.ntmps14
  go_wp2_with (go_at_call 45; (with_reducible refine (order_true at_ a b A c ln _ ?side1 LC.out hl).mono ?_); (case side1 => exact Kd.C_alloc HC.out _); rintro e w' ⟨rfl, hb_⟩)
  go_ret
  exact ⟨rfl, below_then (below_alloc (Below.refl _ _) _) (below_size (below_alloc (Below.refl _ _) _)) hb_⟩
end Go.Proofs.Ytbphmpncajfaiaa.K
/- Words for the rows: a slice of whole numbers that came in, opened. -/
namespace Go.Proofs.Ytbphmpncajfaiaa.K
open Go.ChangeShapes Go.WideShapes Go.ChangeAt Go.RowKit Go.Joins Go.Proofs.Ytbphmpncajfaiaa.M Go.Proofs.YtbphmpncajfaiaaW.PrintWords Go.Proofs.YtbphmpncajfaiaaW.PrintLast Go.Proofs.YtbphmpncajfaiaaW.PrintMore
theorem own : ownKnob Try.prog.godebug = none := by kernel_rfl
theorem laidOut : laidOutB Try.prog = true := by kernel_rfl
theorem open_row {H : Type} {enc : TypeId × Value → H} {P : Program} {W : World} {t e : TypeId} {k : IntKind} {fuel : Nat} {cs : List Value} {x : DataW H × List MemPlace} {ts : List TypeId} {ds : List (DataW H)} {j : Nat} (hu : P.underlying t = some (.slice e)) (he : P.underlying e = some (.int k)) (hc : P.cellsOf e = 1)
    (h : DataW.trod enc P W 0 (fun _ => true) true fuel t cs = some x) (hsz : (DataW.weightsEach P ts ds).all (· ≤ reachBytes) = true) (ht : ts[j]? = some t) (hd : ds[j]? = some x.1) {B : Nat} (hB : P.bytesOf e = B) :
    ∃ (A : Option Addr) (l : List Int) (c : Nat), cs = [.slice A l.length c] ∧ l.length ≤ c ∧ (Kd.int k).C W A l.length l ∧ (∀ n ∈ l, (Lit.int k n).wf = true) ∧ l.length * B ≤ 140737488351232 := by
  rcases open_ints hu he hc h with ⟨rfl, rfl⟩ | ⟨a, len, cap, zs, rfl, _, hl, hm, hz, hx, hcell, hwz⟩
  · exact ⟨none, [], 0, rfl, Nat.le_refl _, Kd.C_nil _ _, (fun n hn => by cases hn), by simp⟩
  · have hz' : zs.length = cap := by simpa using hz
    obtain ⟨l, hlen, hr, hm', hw', hc'⟩ := ReadsInt.ofRowC (k := k) (w := W) (a := some a) (len := len) (cap := cap) (zs := zs) (.inr ⟨a, rfl, hl, hm, hz', hcell, hwz⟩)
    subst hlen
    have hsize := sized_slice hsz ht (elems := lits k (zs.take l.length)) (spare := lits k (zs.drop l.length)) (by rw [hd, hx]) hu
    rw [hB] at hsize
    have h1 : (lits (H := H) k (zs.take l.length)).length + (lits (H := H) k (zs.drop l.length)).length = zs.length := by
      simp [lits]
      omega
    rw [h1] at hsize
    exact ⟨some a, l, cap, rfl, hc', Kd.C_of_reads (d := (0 : Int)) (h1 := fun _ => rfl) hr, hw', Nat.le_trans (Nat.mul_le_mul_right _ (by omega)) hsize⟩
theorem bytes_wf {l : List Int} (h : ∀ n ∈ l, (Lit.int .u8 n).wf = true) : Bytes l := fun x hx => by
  have := h x hx
  simp [Lit.wf, IntKind.min, IntKind.max, IntKind.signed, IntKind.bits] at this
  omega
theorem byte_wf {x : Int} (h : (Lit.int .u8 x).wf = true) : 0 ≤ x ∧ x < 256 := by
  simp [Lit.wf, IntKind.min, IntKind.max, IntKind.signed, IntKind.bits] at h
  omega
theorem int_wf {x : Int} (h : (Lit.int .i64 x).wf = true) : -9223372036854775808 ≤ x ∧ x ≤ 9223372036854775807 := by
  simp [Lit.wf, IntKind.min, IntKind.max, IntKind.signed, IntKind.bits] at h
  omega
theorem places_lt {H : Type} {enc : TypeId × Value → H} {P : Program} {W : World} {base : Nat} {spare : Nat → Bool} {held : Bool} {t : TypeId} {v : Value} {d : DataW H} {p : List MemPlace} (h : DataW.Trod enc P W base spare held t v d p) : ∀ x ∈ p, x.block < W.heap.size := by
  obtain ⟨m, hm⟩ := h
  exact DataW.trod_lt m _ _ _ hm
end Go.Proofs.Ytbphmpncajfaiaa.K
