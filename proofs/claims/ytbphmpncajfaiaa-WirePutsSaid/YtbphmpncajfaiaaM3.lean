/- Plain: what boxes there are, and what Unbox answers. -/
import Derived.Test.YtbphmpncajfaiaaM2
import Derived.Test.YtbphmpncajfaiaaPyx6
import Derived.Test.YtbphmpncajfaiaaPyx25
import Derived.Lib.Bytes
namespace Go.Proofs.Ytbphmpncajfaiaa.M
open Go.RowKit Go.Proofs.Ytbphmpncajfaiaa.Py Go.Proofs.YtbphmpncajfaiaaW.PrintWords Go.Proofs.YtbphmpncajfaiaaW.PrintLast Go.Proofs.YtbphmpncajfaiaaW.PrintMore
set_option linter.unusedVariables false
set_option linter.unusedSimpArgs false
/-- It answers r, once there are rounds enough. -/
def Comes {α : Type} (f : Nat → Option α) (r : α) : Prop := ∃ K, ∀ k, K ≤ k → f k = some r
theorem Comes.of {α : Type} {f : Nat → Option α} {r : α} (K : Nat) (h : ∀ k, K ≤ k → f k = some r) : Comes f r := ⟨K, h⟩
theorem Comes.bind {α β : Type} {f : Nat → Option α} {g : Nat → α → Option β} {r : α} {q : β} (h : Comes f r) (h' : Comes (fun k => g k r) q) : Comes (fun k => (f k).bind (g k)) q := by
  obtain ⟨K, h⟩ := h
  obtain ⟨K', h'⟩ := h'
  refine ⟨max K K', fun k hk => ?_⟩
  show (f k).bind (g k) = some q
  rw [h k (by omega)]
  exact h' k (by omega)
theorem Comes.step {α : Type} {f g : Nat → Option α} {r : α} (h : Comes g r) (hs : ∀ k, f (k + 1) = g k) : Comes f r := by
  obtain ⟨K, h⟩ := h
  refine ⟨K + 1, fun k hk => ?_⟩
  obtain ⟨k, rfl⟩ : ∃ j, k = j + 1 := ⟨k - 1, by omega⟩
  rw [hs]
  exact h k (by omega)
theorem Comes.congr {α : Type} {f g : Nat → Option α} {r : α} (h : Comes g r) (hs : ∀ k, f k = g k) : Comes f r := by
  obtain ⟨K, h⟩ := h
  exact ⟨K, fun k hk => by rw [hs]; exact h k hk⟩
theorem Comes.now {α : Type} {r : α} : Comes (fun _ => some r) r := ⟨0, fun _ _ => rfl⟩

theorem str_map (l : List Int) : (strOfNums l).toList = l.map fun n => UInt8.ofNat n.toNat := by
  rw [Lib.strOfNums_toList]
  rfl
theorem str_inj : ∀ {l m : List Int}, Bytes l → Bytes m → (strOfNums l).toList = (strOfNums m).toList → l = m := by
  intro l m hl hm h
  rw [str_map, str_map] at h
  induction l generalizing m with
  | nil =>
    cases m with
    | nil => rfl
    | cons y m => simp at h
  | cons x l ih =>
    cases m with
    | nil => simp at h
    | cons y m =>
      rw [List.map_cons, List.map_cons] at h
      injection h with h1 h2
      have hx := hl x List.mem_cons_self
      have hy := hm y List.mem_cons_self
      have h3 : (UInt8.ofNat x.toNat).toNat = (UInt8.ofNat y.toNat).toNat := by rw [h1]
      rw [UInt8.toNat_ofNat', UInt8.toNat_ofNat'] at h3
      rw [ih (fun z hz => hl z (List.mem_cons_of_mem _ hz)) (fun z hz => hm z (List.mem_cons_of_mem _ hz)) h2]
      congr 1
      omega
theorem equal_f {l m : List Int} (hl : Bytes l) (hm : Bytes m) : bytes_Equal.f l m = some (decide (l = m)) := by
  unfold bytes_Equal.f
  congr 1
  by_cases h : l = m
  · subst h
    simp
  · rw [decide_eq_false h]
    exact beq_eq_false_iff_ne.2 (fun e => h (str_inj hl hm e))
theorem clone_f {l : List Int} (hl : l.length < 140737488355328) : slices_Clone_byte_byte.f l = some l := by
  unfold slices_Clone_byte_byte.f
  simp [hl]

def be32 (c : Int) : List Int := [(c / 16777216) % 256, (c / 65536) % 256, (c / 256) % 256, c % 256]
def body (size : Nat) (fl : List Int) : List Int := [((fl.length : Int) / 256) % 256, (fl.length : Int) % 256] ++ fl ++ List.replicate (size - 6 - fl.length) 0
/-- The box of some bytes. -/
def boxOf (size : Int) (fl : List Int) : List Int × Option Int :=
  if size < 6 ∨ 65536 < size then ([], some 1)
  else if size - 6 < fl.length ∨ 65535 < fl.length then ([], some 2)
  else (be32 (crc (body size.toNat fl)) ++ body size.toNat fl, none)
theorem be32_bytes (c : Int) : Bytes (be32 c) := fun x hx => by
  simp only [be32, List.mem_cons, List.not_mem_nil, or_false] at hx
  rcases hx with rfl | rfl | rfl | rfl <;> omega
theorem be32_inj {a b : Int} (ha : 0 ≤ a ∧ a < 4294967296) (hb : 0 ≤ b ∧ b < 4294967296) (h : be32 a = be32 b) : a = b := by
  simp only [be32, List.cons.injEq, and_true] at h
  omega
theorem be32_len (c : Int) : (be32 c).length = 4 := rfl
theorem body_bytes {size : Nat} {fl : List Int} (h : Bytes fl) : Bytes (body size fl) := by
  unfold body
  refine ((Bytes.append (fun x hx => ?_) h).append (Bytes.replicate _))
  simp only [List.mem_cons, List.not_mem_nil, or_false] at hx
  rcases hx with rfl | rfl <;> omega
theorem body_len {size : Nat} {fl : List Int} (h : fl.length + 6 ≤ size) : (body size fl).length = size - 4 := by
  unfold body
  simp
  omega
theorem stamp_head (n c : Int) (fl z : List Int) : stamp (boxHead n ++ fl ++ z) c = be32 c ++ ([(n / 256) % 256, n % 256] ++ fl ++ z) := by
  simp [stamp, boxHead, be32, List.replicate]
theorem head_drop (n : Int) (fl z : List Int) : (boxHead n ++ fl ++ z).drop 4 = [(n / 256) % 256, n % 256] ++ fl ++ z := by
  simp [boxHead, List.replicate]
theorem head_len (n : Int) : (boxHead n).length = 6 := by simp [boxHead]

/-! #### Box -/
theorem box_l1 (a0 : Int) (ha : 6 ≤ a0) (ha' : a0 ≤ 65536) (n : Int) : ∀ (ls ms : List (List Int)) (x9 fl : List Int), x9 = boxHead n ++ fl → x9.length + ls.flatten.length ≤ a0.toNat → Bytes fl → (∀ l ∈ ls, Bytes l) → (ms ++ ls).length ≤ 140737488355328 →
    Comes (fun k => wire_Box.l1 k a0 x9 (ms ++ ls) ((ms ++ ls).length : Int) (ms.length : Int))
      (stamp (boxHead n ++ (fl ++ ls.flatten) ++ List.replicate (a0.toNat - 6 - (fl ++ ls.flatten).length) 0) (crc ((boxHead n ++ (fl ++ ls.flatten) ++ List.replicate (a0.toNat - 6 - (fl ++ ls.flatten).length) 0).drop 4)), none)
  | [], ms, x9, fl, hx, hlen, hf, hb, hl => by
    have hlx : x9.length = 6 + fl.length := by rw [hx, List.length_append, head_len]
    rw [List.flatten_nil, List.length_nil] at hlen
    simp only [List.flatten_nil, List.append_nil]
    rw [← hx]
    have hw : wrap64 (a0 - (x9.length : Int)) = a0 - x9.length := by unfold wrap64; omega
    have hz : (a0 - (x9.length : Int)).toNat = a0.toNat - 6 - fl.length := by omega
    obtain ⟨y, hy⟩ : ∃ y, y = x9 ++ List.replicate (a0.toNat - 6 - fl.length) 0 := ⟨_, rfl⟩
    have hyl : y.length = x9.length + (a0.toNat - 6 - fl.length) := by rw [hy, List.length_append, List.length_replicate]
    have hyb : Bytes (y.drop 4) := by
      rw [hy, hx, head_drop]
      refine (Bytes.append (fun x hx => ?_) hf).append (Bytes.replicate _)
      simp only [List.mem_cons, List.not_mem_nil, or_false] at hx
      rcases hx with rfl | rfl <;> omega
    have hyd : (y.drop 4).length ≤ 140737488355328 := by rw [List.length_drop]; omega
    rw [← hy]
    refine Comes.step (g := fun k => (wire_Check.f k [y.drop 4]).bind fun t142 => some (stamp y t142, none)) ?_ (fun k => ?_)
    · refine Comes.bind (r := crc (y.drop 4)) (Comes.of (wrounds [y.drop 4]) (fun k hk => ?_)) Comes.now
      have h := wire_check (ls := [y.drop 4]) (fun l hl => by rw [List.mem_singleton] at hl; subst hl; exact ⟨hyb, hyd⟩) (by simp) k hk
      rwa [List.flatten_cons, List.flatten_nil, List.append_nil] at h
    · simp only [wire_Box.l1]
      rw [if_neg (by omega), hw, if_pos (by omega), hz, if_pos (by omega), ← hy, Option.bind_some, if_pos (by omega)]
  | l :: ls, ms, x9, fl, hx, hlen, hf, hb, hl => by
    have hl' := hl
    rw [List.length_append, List.length_cons] at hl'
    rw [List.flatten_cons, List.length_append] at hlen
    have ih := box_l1 a0 ha ha' n ls (ms ++ [l]) (x9 ++ l) (fl ++ l) (by rw [hx, List.append_assoc]) (by rw [List.length_append]; omega) (hf.append (hb l List.mem_cons_self)) (fun x hx => hb x (List.mem_cons_of_mem _ hx)) (by simp; omega)
    simp only [List.append_assoc, List.cons_append, List.nil_append, List.flatten_cons] at ih ⊢
    refine Comes.step ih (fun k => ?_)
    simp only [wire_Box.l1]
    rw [if_pos (by simp; omega), if_pos (by omega), if_pos (by simp; omega), rd2_cons, if_pos (by omega), w1 (by omega) (by omega)]
    have e : (((ms ++ [l]).length : Nat) : Int) = (ms.length : Int) + 1 := by simp
    rw [e]
theorem box_l0 (a0 : Int) (ha : 6 ≤ a0) (ha' : a0 ≤ 65536) (all : List (List Int)) (hb : ∀ l ∈ all, Bytes l ∧ l.length ≤ 140737488355328) (hl : all.length ≤ 140737488355328) : ∀ (ls ms : List (List Int)), all = ms ++ ls → ms.flatten.length ≤ 65535 → ms.flatten.length ≤ a0 - 6 →
    Comes (fun k => wire_Box.l0 k a0 all (ms.flatten.length : Int) all (all.length : Int) (ms.length : Int)) (boxOf a0 all.flatten)
  | [], ms, hx, h1, h2 => by
    have hx' : all = ms := by rw [hx, List.append_nil]
    have hlen : (boxHead (ms.flatten.length : Int)).length + all.flatten.length ≤ a0.toNat := by rw [head_len, hx']; omega
    have h := box_l1 a0 ha ha' (ms.flatten.length : Int) all [] (boxHead (ms.flatten.length : Int)) [] (by simp) hlen Bytes.nil (fun l hm => (hb l hm).1) (by simpa using hl)
    refine Comes.step (g := fun k => wire_Box.l1 k a0 (boxHead (ms.flatten.length : Int)) all (all.length : Int) 0) ?_ (fun k => ?_)
    · have hr : boxOf a0 all.flatten = (stamp (boxHead (ms.flatten.length : Int) ++ ([] ++ all.flatten) ++ List.replicate (a0.toNat - 6 - ([] ++ all.flatten).length) 0) (crc ((boxHead (ms.flatten.length : Int) ++ ([] ++ all.flatten) ++ List.replicate (a0.toNat - 6 - ([] ++ all.flatten).length) 0).drop 4)), none) := by
        unfold boxOf
        rw [if_neg (by omega), if_neg (by rw [hx']; omega), head_drop, stamp_head, hx']
        rfl
      rw [hr]
      exact h
    · simp only [wire_Box.l0]
      rw [if_neg (by rw [hx']; omega), if_pos ha, if_pos (by omega)]
  | l :: ls, ms, hx, h1, h2 => by
    have hm := hb l (by rw [hx]; simp)
    have hal : all.length = ms.length + (ls.length + 1) := by rw [hx]; simp
    have hf : all.flatten.length = ms.flatten.length + l.length + ls.flatten.length := by rw [hx]; simp; omega
    have e1 : wrap64 ((ms.flatten.length : Int) + (l.length : Int)) = (ms.flatten.length : Int) + (l.length : Int) := by unfold wrap64; omega
    have e2 : wrap64 (a0 - 6) = a0 - 6 := by unfold wrap64; omega
    have hrd : rd_L2 all (ms.length : Int) = l := by rw [hx]; exact rd2_cons
    by_cases hc : (ms.flatten.length : Int) + (l.length : Int) > a0 - 6 ∨ (ms.flatten.length : Int) + (l.length : Int) > 65535
    · refine Comes.step (g := fun _ => some ([], some 2)) ?_ (fun k => ?_)
      · have hr : boxOf a0 all.flatten = ([], some 2) := by
          unfold boxOf
          rw [if_neg (by omega), if_pos (by omega)]
        rw [hr]
        exact Comes.now
      · simp only [wire_Box.l0]
        rw [if_pos (by omega), if_pos (by omega), if_pos (by omega), hrd, e1, e2]
        by_cases h3 : (ms.flatten.length : Int) + (l.length : Int) > a0 - 6
        · rw [if_pos h3]
        · rw [if_neg h3, if_pos (by omega)]
    · have hfm : (ms ++ [l]).flatten.length = ms.flatten.length + l.length := by simp
      have ih := box_l0 a0 ha ha' all hb hl ls (ms ++ [l]) (by rw [hx]; simp) (by omega) (by omega)
      refine Comes.step ih (fun k => ?_)
      simp only [wire_Box.l0]
      rw [if_pos (by omega), if_pos (by omega), if_pos (by omega), hrd, e1, e2, if_neg (by omega), if_neg (by omega), w1 (by omega) (by omega)]
      have e : (((ms ++ [l]).length : Nat) : Int) = (ms.length : Int) + 1 := by simp
      have e' : (((ms ++ [l]).flatten.length : Nat) : Int) = (ms.flatten.length : Int) + (l.length : Int) := by omega
      rw [e, e']
theorem box_comes (a0 : Int) {ls : List (List Int)} (hb : ∀ l ∈ ls, Bytes l ∧ l.length ≤ 140737488355328) (hl : ls.length ≤ 140737488355328) : Comes (fun k => wire_Box.f k a0 ls) (boxOf a0 ls.flatten) := by
  by_cases h1 : a0 < 6
  · have hr : boxOf a0 ls.flatten = ([], some 1) := by unfold boxOf; rw [if_pos (by omega)]
    rw [hr]
    refine Comes.step (g := fun _ => some ([], some 1)) Comes.now (fun k => ?_)
    simp only [wire_Box.f, wire_Box.j0]
    rw [if_pos h1]
    rfl
  · by_cases h2 : a0 > 65536
    · have hr : boxOf a0 ls.flatten = ([], some 1) := by unfold boxOf; rw [if_pos (by omega)]
      rw [hr]
      refine Comes.step (g := fun _ => some ([], some 1)) Comes.now (fun k => ?_)
      simp only [wire_Box.f, wire_Box.j0]
      rw [if_neg h1, if_pos (decide_eq_true h2)]
    · have h := box_l0 a0 (by omega) (by omega) ls hb hl ls [] (by simp) (by simp) (by simp; omega)
      refine Comes.step h (fun k => ?_)
      simp only [wire_Box.f, wire_Box.j0]
      rw [if_neg h1, if_neg (by simpa using h2)]
      rfl

/-! #### Unbox -/
def unboxOf (b : List Int) : List Int × Option Int :=
  if b.length < 6 ∨ 65536 < b.length then ([], some 4)
  else if (b.length : Int) - 6 < 256 * rd b 4 + rd b 5 then ([], some 4)
  else if boxOf b.length ((b.take (6 + (256 * rd b 4 + rd b 5)).toNat).drop 6) = (b, none) then ((b.take (6 + (256 * rd b 4 + rd b 5)).toNat).drop 6, none)
  else ([], some 4)
theorem boxOf_bytes {size : Int} {fl : List Int} (h : Bytes fl) : Bytes (boxOf size fl).1 := by
  unfold boxOf
  split
  · exact Bytes.nil
  · split
    · exact Bytes.nil
    · exact (be32_bytes _).append (body_bytes h)
theorem unbox_comes {b : List Int} (hb : Bytes b) (hl : b.length ≤ 140737488355328) : Comes (fun k => wire_Unbox.f k b) (unboxOf b) := by
  by_cases h1 : (b.length : Int) < 6
  · have hr : unboxOf b = ([], some 4) := by unfold unboxOf; rw [if_pos (by omega)]
    rw [hr]
    refine Comes.step (g := fun _ => some ([], some 4)) Comes.now (fun k => ?_)
    simp only [wire_Unbox.f, wire_Unbox.j0]
    rw [if_pos h1]
    rfl
  · by_cases h2 : (b.length : Int) > 65536
    · have hr : unboxOf b = ([], some 4) := by unfold unboxOf; rw [if_pos (by omega)]
      rw [hr]
      refine Comes.step (g := fun _ => some ([], some 4)) Comes.now (fun k => ?_)
      simp only [wire_Unbox.f, wire_Unbox.j0]
      rw [if_neg h1, if_pos (decide_eq_true h2)]
    · have r4 := rd_bytes hb 4 (by omega)
      have r5 := rd_bytes hb 5 (by omega)
      have e4 : wrap64 (wrap64 (rd b 4) * 256) = rd b 4 * 256 := by unfold wrap64; omega
      have e5 : wrap64 (rd b 5) = rd b 5 := by unfold wrap64; omega
      have eo : bits .or .i64 (rd b 4 * 256) (rd b 5) = 256 * rd b 4 + rd b 5 := by
        rw [bits_join .i64 63 (by decide) (fun n h0 h1 => by rw [IntKind.wrap_i64]; omega) 8 _ _ (by omega) (by omega) (by omega) (by omega) (by omega) (by omega)]
        omega
      have e6 : wrap64 ((b.length : Int) - 6) = b.length - 6 := by unfold wrap64; omega
      have e7 : wrap64 (6 + (256 * rd b 4 + rd b 5)) = 6 + (256 * rd b 4 + rd b 5) := by unfold wrap64; omega
      by_cases h3 : (b.length : Int) - 6 < 256 * rd b 4 + rd b 5
      · have hr : unboxOf b = ([], some 4) := by unfold unboxOf; rw [if_neg (by omega), if_pos h3]
        rw [hr]
        refine Comes.step (g := fun _ => some ([], some 4)) Comes.now (fun k => ?_)
        simp only [wire_Unbox.f, wire_Unbox.j0]
        rw [if_neg h1, if_neg (by simpa using h2), if_pos (by omega), if_pos (by omega), e4, e5, eo, e6, if_pos (by omega)]
      · generalize hin : (b.take (6 + (256 * rd b 4 + rd b 5)).toNat).drop 6 = inn
        have hinb : Bytes inn := by rw [← hin]; exact (hb.take _).drop 6
        have hinl : inn.length ≤ b.length := by rw [← hin]; simp; omega
        have hbx := box_comes (b.length : Int) (ls := [inn]) (fun l hl => by rw [List.mem_singleton] at hl; subst hl; exact ⟨hinb, by omega⟩) (by simp)
        have hr : unboxOf b = if boxOf b.length inn = (b, none) then (inn, none) else ([], some 4) := by unfold unboxOf; rw [if_neg (by omega), if_neg h3, hin]
        rw [hr]
        refine Comes.step (g := fun k => (wire_Box.f k (b.length : Int) [inn]).bind fun bt275 => (if bt275.2.isNone = true then ((bytes_Equal.f bt275.1 b).bind fun t280 => (if t280 = true then (some (inn, none)) else (some (([] : List Int), some 4)))) else (some (([] : List Int), some 4)))) ?_ (fun k => ?_)
        · refine Comes.bind hbx ?_
          have hfl : [inn].flatten = inn := by simp
          rw [hfl]
          have hbb := boxOf_bytes (size := (b.length : Int)) hinb
          generalize boxOf (b.length : Int) inn = bx at hbb ⊢
          obtain ⟨bl, be⟩ := bx
          cases be with
          | some e =>
            rw [if_neg (show ¬ ((bl, some e) = (b, (none : Option Int))) from fun q => by injection q with _ q; cases q)]
            exact Comes.congr (g := fun _ => some ([], some 4)) Comes.now (fun k => rfl)
          | none =>
            refine Comes.congr (g := fun _ => some (if (bl, (none : Option Int)) = (b, none) then (inn, none) else ([], some 4))) Comes.now (fun k => ?_)
            simp only [Option.isNone_none, if_true]
            rw [equal_f hbb hb]
            simp only [Option.bind_some]
            by_cases hq : bl = b
            · subst hq
              simp
            · rw [decide_eq_false hq, if_neg (by decide), if_neg (by simpa using hq)]
        · simp only [wire_Unbox.f, wire_Unbox.j0]
          rw [if_neg h1, if_neg (by simpa using h2), if_pos (by omega), if_pos (by omega), e4, e5, eo, e6, if_neg (by omega), e7, if_pos (by omega), if_pos (by omega), hin, clone_f (by omega)]
          rfl
/-! #### what a box is -/
theorem boxOf_ok {size : Int} {fl : List Int} (h : (boxOf size fl).2 = none) : 6 ≤ size ∧ size ≤ 65536 ∧ fl.length + 6 ≤ size ∧ fl.length ≤ 65535 ∧ (boxOf size fl).1 = be32 (crc (body size.toNat fl)) ++ body size.toNat fl := by
  unfold boxOf at h ⊢
  split at h
  · cases h
  · split at h
    · cases h
    · rename_i h1 h2
      rw [if_neg h1, if_neg h2]
      exact ⟨by omega, by omega, by omega, by omega, rfl⟩
theorem boxOf_len {size : Int} {fl : List Int} (h : (boxOf size fl).2 = none) : ((boxOf size fl).1.length : Int) = size := by
  obtain ⟨h1, h2, h3, h4, h5⟩ := boxOf_ok h
  rw [h5, List.length_append, be32_len, body_len (by omega)]
  omega
theorem boxOf_err {size : Int} {fl : List Int} {e : Int} (h : (boxOf size fl).2 = some e) : (boxOf size fl).1 = [] := by
  unfold boxOf at h ⊢
  split at h
  · rename_i h1
    rw [if_pos h1]
  · rename_i h1
    rw [if_neg h1]
    split at h
    · rename_i h2
      rw [if_pos h2]
    · cases h
theorem boxOf_sum {size : Int} {fl : List Int} (h : (boxOf size fl).2 = none) : (boxOf size fl).1.take 4 = be32 (crc ((boxOf size fl).1.drop 4)) := by
  obtain ⟨h1, h2, h3, h4, h5⟩ := boxOf_ok h
  rw [h5]
  simp [be32]
/-- What Unbox takes has its sum ahead. -/
theorem unbox_sum {b : List Int} (h : (unboxOf b).2 = none) : 6 ≤ b.length ∧ b.length ≤ 65536 ∧ b.take 4 = be32 (crc (b.drop 4)) := by
  unfold unboxOf at h
  split at h
  · cases h
  · split at h
    · cases h
    · split at h
      · rename_i h1 h2 h3
        have h4 : (boxOf (b.length : Int) ((b.take (6 + (256 * rd b 4 + rd b 5)).toNat).drop 6)).2 = none := by rw [h3]
        have h5 := boxOf_sum h4
        rw [h3] at h5
        exact ⟨by omega, by omega, h5⟩
      · cases h
theorem unbox_err {b : List Int} (h : (unboxOf b).2 ≠ none) : unboxOf b = ([], some 4) := by
  unfold unboxOf at h ⊢
  split at h
  · rename_i h1
    rw [if_pos h1]
  · rename_i h1
    rw [if_neg h1]
    split at h
    · rename_i h2
      rw [if_pos h2]
    · rename_i h2
      rw [if_neg h2]
      split at h
      · exact absurd rfl h
      · rename_i h3
        rw [if_neg h3]
theorem unbox_zeros (m : Nat) : unboxOf (List.replicate m 0) = ([], some 4) := by
  apply unbox_err
  intro h
  obtain ⟨h1, h2, h3⟩ := unbox_sum h
  rw [List.length_replicate] at h1 h2
  rw [List.take_replicate, List.drop_replicate, Nat.min_eq_left (by omega)] at h3
  have h4 : be32 0 = be32 (crc (List.replicate (m - 4) 0)) := by rw [← h3]; rfl
  exact crc_zeros (m := m - 4) (by omega) (by omega) (be32_inj (by omega) (crc_range (Bytes.replicate _)) h4).symm
theorem set_split {l : List Int} {i : Nat} (h : i < l.length) (y : Int) : ∃ a x b, l = a ++ x :: b ∧ l.set i y = a ++ y :: b ∧ x = l[i] ∧ a.length = i := by
  refine ⟨l.take i, l[i], l.drop (i + 1), ?_, ?_, rfl, by rw [List.length_take]; omega⟩
  · rw [List.getElem_cons_drop, List.take_append_drop]
  · rw [List.set_eq_take_append_cons_drop, if_pos h]
/-- A box with one byte changed is none. -/
theorem unbox_change {size : Int} {fl : List Int} (hf : Bytes fl) (h : (boxOf size fl).2 = none) {i : Nat} (hi : i < (boxOf size fl).1.length) {y : Int} (hy : 0 ≤ y ∧ y < 256) (hne : (boxOf size fl).1[i] ≠ y) :
    unboxOf ((boxOf size fl).1.set i y) = ([], some 4) := by
  apply unbox_err
  intro hu
  obtain ⟨h1, h2, h3⟩ := unbox_sum hu
  have h4 := boxOf_sum h
  have hb := boxOf_bytes (size := size) hf
  generalize (boxOf size fl).1 = L at *
  rw [List.length_set] at h1 h2
  by_cases h5 : i < 4
  · rw [List.drop_set, if_pos h5, ← h4] at h3
    have h6 : (L.set i y).take 4 = L.take 4 := h3
    have h7 : ((L.set i y).take 4)[i]? = (L.take 4)[i]? := by rw [h6]
    rw [List.getElem?_take_of_lt h5, List.getElem?_take_of_lt h5, List.getElem?_set_self (by omega), List.getElem?_eq_getElem hi] at h7
    injection h7 with h7
    exact hne h7.symm
  · rw [List.take_set_of_le (by omega), h4] at h3
    have h6 := be32_inj (crc_range (hb.drop 4)) (crc_range (Bytes.drop (fun x hx => ?_) 4)) h3
    · rw [List.drop_set, if_neg h5] at h6
      have hi' : i - 4 < (L.drop 4).length := by rw [List.length_drop]; omega
      obtain ⟨a, x, b, e1, e2, e3, e4⟩ := set_split hi' y
      rw [e2] at h6
      rw [e1] at h6
      refine crc_change (e1 ▸ hb.drop 4) hy (fun e => hne ?_) h6
      rw [← e, e3, List.getElem_drop]
      congr 1
      omega
    · rcases List.mem_or_eq_of_mem_set hx with h7 | h7
      · exact hb x h7
      · rw [h7]
        exact hy
end Go.Proofs.Ytbphmpncajfaiaa.M
