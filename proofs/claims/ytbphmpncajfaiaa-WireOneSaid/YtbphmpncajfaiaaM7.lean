/- Plain: Takes, TakeRow, Take and Ints. -/
import Derived.Test.YtbphmpncajfaiaaM6
namespace Go.Proofs.Ytbphmpncajfaiaa.M
open Go.RowKit Go.Proofs.Ytbphmpncajfaiaa.Py Go.Proofs.YtbphmpncajfaiaaW.PrintWords
set_option linter.unusedVariables false
set_option linter.unusedSimpArgs false
theorem takes_l0 (cnt : Nat) (hcnt : cnt ≤ 4096) : ∀ (l acc : List Int) (r : List Int) (i : Nat) (k : Nat), (∀ x ∈ l, I64 x) → i + l.length = cnt → Bytes r → r.length ≤ 140737488300000 → acc.length ≤ 4096 → acc.length + l.length ≤ 4096 → l.length + 22 ≤ k →
    wire_Takes.l0 k (nums l ++ r) acc (cnt : Int) (i : Int) = some (acc ++ l, r, none)
  | [], acc, r, i, k, hI, hi, hr, hl, ha, ha', hk => by
    obtain ⟨k, rfl⟩ : ∃ j, k = j + 1 := ⟨k - 1, by omega⟩
    simp only [wire_Takes.l0]
    rw [if_neg (by simp at hi; omega)]
    have e : nums [] ++ r = r := rfl
    rw [e, clone_f (by omega)]
    simp
  | n :: l, acc, r, i, k, hI, hi, hr, hl, ha, ha', hk => by
    have hn := hI n List.mem_cons_self
    have hI' : ∀ x ∈ l, I64 x := fun x hx => hI x (List.mem_cons_of_mem _ hx)
    rw [List.length_cons] at hi hk ha'
    have hle := num_le hn
    have hp : 0 < (num n).length := enc_pos _
    have hnl := nums_len hI'
    obtain ⟨k, rfl⟩ : ∃ j, k = j + 1 := ⟨k - 1, by omega⟩
    have e : nums (n :: l) ++ r = num n ++ (nums l ++ r) := by simp [nums]
    simp only [wire_Takes.l0]
    rw [if_pos (by omega), e, take_comes ((num_bytes n).append ((nums_bytes l).append hr)) (by simp; omega) k (by omega), take_num hn]
    simp only [Option.bind_some]
    rw [if_neg (by omega), if_pos (by omega), if_pos (by omega), if_pos (by simp; omega), Int.toNat_natCast, List.drop_left, w1 (by omega) (by omega)]
    have := takes_l0 cnt hcnt l (acc ++ [n]) r (i + 1) k hI' (by omega) hr hl (by simp; omega) (by simp; omega) (by omega)
    have e' : ((i + 1 : Nat) : Int) = (i : Int) + 1 := by omega
    rw [e'] at this
    rw [this, List.append_assoc]
    rfl
theorem takes_comes {l r : List Int} (hI : ∀ x ∈ l, I64 x) (hl : l.length ≤ 4096) (hr : Bytes r) (hrl : r.length ≤ 140737488300000) : Comes (fun k => wire_Takes.f k (nums l ++ r) (l.length : Int)) (l, r, none) := by
  refine Comes.of (l.length + 23) (fun k hk => ?_)
  obtain ⟨k, rfl⟩ : ∃ j, k = j + 1 := ⟨k - 1, by omega⟩
  show wire_Takes.f (k + 1) (nums l ++ r) (l.length : Int) = _
  unfold wire_Takes.f
  rw [if_neg (by omega), decide_eq_false (by omega)]
  simp only [wire_Takes.j0]
  rw [if_neg (by decide)]
  have := takes_l0 l.length hl l [] r 0 k hI (by omega) hr hrl (by simp) (by simpa using hl) (by omega)
  exact this
theorem takerow_comes {row more : List Int} (hb : Bytes (row ++ more)) (hl : row.length + more.length ≤ 140737488300000) : Comes (fun k => wire_TakeRow.f k (num (row.length : Int) ++ row ++ more)) (row, more, none) := by
  have hn : I64 (row.length : Int) := by unfold I64; omega
  have hle := num_le hn
  have hp : 0 < (num (row.length : Int)).length := enc_pos _
  refine Comes.of 22 (fun k hk => ?_)
  obtain ⟨k, rfl⟩ : ∃ j, k = j + 1 := ⟨k - 1, by omega⟩
  show wire_TakeRow.f (k + 1) (num (row.length : Int) ++ row ++ more) = _
  unfold wire_TakeRow.f
  rw [List.append_assoc, take_comes ((num_bytes _).append hb) (by simp; omega) (k + 1) (by omega), take_num hn]
  simp only [Option.bind_some]
  have e1 : wrap64 (((num (row.length : Int) ++ (row ++ more)).length : Int) - ((num (row.length : Int)).length : Int)) = row.length + more.length := by
    simp only [List.length_append]
    unfold wrap64
    omega
  have e2 : wrap64 (((num (row.length : Int)).length : Int) + (row.length : Int)) = ((num (row.length : Int)).length + row.length : Nat) := by unfold wrap64; omega
  rw [if_neg (by omega), if_neg (by omega), e1, decide_eq_false (by omega)]
  simp only [wire_TakeRow.j0]
  rw [if_neg (by decide), if_pos (by omega), e2, if_pos (by omega), if_pos (by simp only [List.length_append]; omega), Int.toNat_natCast, Int.toNat_natCast]
  have e3 : ((num (row.length : Int) ++ (row ++ more)).take ((num (row.length : Int)).length + row.length)).drop (num (row.length : Int)).length = row := by
    rw [← List.append_assoc, List.take_left' (by simp), List.drop_left]
  have e4 : (num (row.length : Int) ++ (row ++ more)).drop ((num (row.length : Int)).length + row.length) = more := by
    rw [← List.append_assoc, List.drop_left' (by simp)]
  rw [e3, e4, clone_f (by omega), clone_f (by omega)]
  simp only [Option.bind_some]
  rw [if_pos (by omega)]
theorem ints_l0 : ∀ (l m : List Int) (k : Nat), (m ++ l).length ≤ 140737488300000 → l.length + 1 ≤ k → palimpsestnum_Ints.l0 k (m ++ l) (m ++ l) ((m ++ l).length : Int) (m.length : Int) = some true
  | [], m, k, hl, hk => by
    obtain ⟨k, rfl⟩ : ∃ j, k = j + 1 := ⟨k - 1, by omega⟩
    simp only [palimpsestnum_Ints.l0]
    rw [if_neg (by simp)]
  | n :: l, m, k, hl, hk => by
    have hl' := hl
    rw [List.length_append, List.length_cons] at hl'
    rw [List.length_cons] at hk
    obtain ⟨k, rfl⟩ : ∃ j, k = j + 1 := ⟨k - 1, by omega⟩
    simp only [palimpsestnum_Ints.l0]
    rw [if_pos (by simp; omega), if_pos (by omega), if_pos (by simp; omega), if_pos (by simp; omega), if_pos trivial, w1 (by omega) (by omega)]
    have := ints_l0 l (m ++ [n]) k (by simp; omega) (by omega)
    simp only [List.append_assoc, List.cons_append, List.nil_append, List.length_append, List.length_cons, List.length_nil] at this ⊢
    have e : ((m.length + (0 + 1) : Nat) : Int) = (m.length : Int) + 1 := by omega
    rw [e] at this
    exact this
theorem ints_comes {l : List Int} (hl : l.length ≤ 140737488300000) : Comes (fun k => palimpsestnum_Ints.f k l l) true := by
  refine Comes.of (l.length + 1) (fun k hk => ?_)
  show palimpsestnum_Ints.f k l l = _
  unfold palimpsestnum_Ints.f
  rw [if_pos rfl]
  have := ints_l0 l [] k (by simpa using hl) hk
  simp only [List.nil_append, List.length_nil] at this
  exact this
/-- Take: none, or a number whose bytes they are. -/
theorem take1_comes {l : List Int} (hb : Bytes l) (hl : l.length ≤ 140737488300000) : Comes (fun k => wire_Take.f k l) (0, [], some 4) ∨ ∃ n r, I64 n ∧ l = num n ++ r ∧ Comes (fun k => wire_Take.f k l) (n, r, none) := by
  by_cases h : (takeOf l).2 = 0
  · left
    refine Comes.of 21 (fun k hk => ?_)
    show wire_Take.f k l = _
    unfold wire_Take.f
    rw [take_comes hb (by omega) k hk]
    simp only [Option.bind_some]
    rw [if_pos h]
  · right
    obtain ⟨n, r, hn, hx, ht⟩ := take_inv hb h
    refine ⟨n, r, hn, hx, Comes.of 21 (fun k hk => ?_)⟩
    have hp : 0 < (num n).length := enc_pos _
    have hlr : (num n).length + r.length = l.length := by rw [hx]; simp
    show wire_Take.f k l = _
    unfold wire_Take.f
    rw [take_comes hb (by omega) k hk, ht]
    simp only [Option.bind_some]
    rw [if_neg (by omega), if_pos (by omega), if_pos (by omega), Int.toNat_natCast]
    have e : l.drop (num n).length = r := by rw [hx, List.drop_left]
    rw [e, clone_f (by omega)]
    rfl
end Go.Proofs.Ytbphmpncajfaiaa.M
