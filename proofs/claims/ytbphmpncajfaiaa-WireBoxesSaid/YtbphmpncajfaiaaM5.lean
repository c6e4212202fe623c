/- Plain: the document's boxes are the program's. -/
import Derived.Test.YtbphmpncajfaiaaM3
import Derived.Test.YtbphmpncajfaiaaPyx22
import Derived.Test.YtbphmpncajfaiaaPyx23
import Derived.Test.YtbphmpncajfaiaaPyx26
namespace Go.Proofs.Ytbphmpncajfaiaa.M
open Go.RowKit Go.Proofs.Ytbphmpncajfaiaa.Py Go.Proofs.YtbphmpncajfaiaaW.PrintWords
set_option linter.unusedVariables false
set_option linter.unusedSimpArgs false
theorem refbox_l0 (a0 : Int) (ha : 6 ≤ a0) (ha' : a0 ≤ 65536) : ∀ (n : Nat) (x : List Int), x.length + n = a0.toNat - 4 → Bytes x →
    Comes (fun k => palimpsestref02_Box.l0 k a0 x) (be32 (crc (x ++ List.replicate n 0)) ++ (x ++ List.replicate n 0), 0)
  | 0, x, hx, hb => by
    rw [List.replicate_zero, List.append_nil]
    have hw : wrap64 (a0 - 4) = a0 - 4 := by unfold wrap64; omega
    have hc : crc x = crc x := rfl
    refine Comes.step (g := fun k => (palimpsestref02_Check.f k x).bind fun t258 => ((some (([(t258 / 16777216) % 256, (t258 / 65536) % 256, (t258 / 256) % 256, (t258) % 256] : List Int) : List Int)).bind fun y259 => (if y259.length + x.length < 140737488355328 then (some ((y259 ++ x), 0)) else (none)))) ?_ (fun k => ?_)
    · refine Comes.bind (r := crc x) (Comes.of _ (fun k hk => ref_check hb (by omega) k hk)) ?_
      refine Comes.congr (g := fun _ => some (be32 (crc x) ++ x, 0)) Comes.now (fun k => ?_)
      simp only [Option.bind_some]
      rw [if_pos (by simp; omega)]
      rfl
    · simp only [palimpsestref02_Box.l0]
      rw [if_neg (by omega)]
  | n + 1, x, hx, hb => by
    have hw : wrap64 (a0 - 4) = a0 - 4 := by unfold wrap64; omega
    have ih := refbox_l0 a0 ha ha' n (x ++ [0]) (by simp; omega) (hb.append (fun z hz => by rw [List.mem_singleton] at hz; omega))
    rw [List.append_assoc, show [(0 : Int)] ++ List.replicate n 0 = List.replicate (n + 1) 0 from rfl] at ih
    refine Comes.step ih (fun k => ?_)
    simp only [palimpsestref02_Box.l0]
    rw [if_pos (by omega), if_pos (by omega)]
theorem ref_box (a0 : Int) {fl : List Int} (hb : Bytes fl) (hl : fl.length ≤ 140737488355000) : Comes (fun k => palimpsestref02_Box.f k a0 fl) ((boxOf a0 fl).1, (boxOf a0 fl).2.getD 0) := by
  by_cases h1 : a0 < 6
  · have hr : boxOf a0 fl = ([], some 1) := by unfold boxOf; rw [if_pos (by omega)]
    rw [hr]
    refine Comes.step (g := fun _ => some ([], 1)) Comes.now (fun k => ?_)
    simp only [palimpsestref02_Box.f, palimpsestref02_Box.j0]
    rw [if_pos h1]
    rfl
  · by_cases h2 : a0 > 65536
    · have hr : boxOf a0 fl = ([], some 1) := by unfold boxOf; rw [if_pos (by omega)]
      rw [hr]
      refine Comes.step (g := fun _ => some ([], 1)) Comes.now (fun k => ?_)
      simp only [palimpsestref02_Box.f, palimpsestref02_Box.j0]
      rw [if_neg h1, if_pos (decide_eq_true h2)]
    · have hw : wrap64 (a0 - 6) = a0 - 6 := by unfold wrap64; omega
      by_cases h3 : (fl.length : Int) > a0 - 6
      · have hr : boxOf a0 fl = ([], some 2) := by unfold boxOf; rw [if_neg (by omega), if_pos (by omega)]
        rw [hr]
        refine Comes.step (g := fun k => palimpsestref02_Box.j1 k a0 fl true) (Comes.step (g := fun _ => some ([], 2)) Comes.now (fun k => ?_)) (fun k => ?_)
        · simp only [palimpsestref02_Box.j1]
          rfl
        · simp only [palimpsestref02_Box.f, palimpsestref02_Box.j0]
          rw [if_neg h1, if_neg (by simpa using h2), hw, if_pos h3]
      · by_cases h4 : (fl.length : Int) > 65535
        · have hr : boxOf a0 fl = ([], some 2) := by unfold boxOf; rw [if_neg (by omega), if_pos (by omega)]
          rw [hr]
          refine Comes.step (g := fun k => palimpsestref02_Box.j1 k a0 fl true) (Comes.step (g := fun _ => some ([], 2)) Comes.now (fun k => ?_)) (fun k => ?_)
          · simp only [palimpsestref02_Box.j1]
            rfl
          · simp only [palimpsestref02_Box.f, palimpsestref02_Box.j0]
            rw [if_neg h1, if_neg (by simpa using h2), hw, if_neg h3, decide_eq_true h4]
        · have hr : boxOf a0 fl = (be32 (crc (body a0.toNat fl)) ++ body a0.toNat fl, none) := by unfold boxOf; rw [if_neg (by omega), if_neg (by omega)]
          rw [hr]
          have e1 : wrap64 ((fl.length : Int) / 256) = (fl.length : Int) / 256 := by unfold wrap64; omega
          have h5 := refbox_l0 a0 (by omega) (by omega) (a0.toNat - 6 - fl.length) ([((fl.length : Int) / 256) % 256, (fl.length : Int) % 256] ++ fl) (by simp; omega) ((Bytes.append (fun x hx => by
            simp only [List.mem_cons, List.not_mem_nil, or_false] at hx
            rcases hx with rfl | rfl <;> omega) hb))
          refine Comes.step (g := fun k => palimpsestref02_Box.j1 k a0 fl false) (Comes.step h5 (fun k => ?_)) (fun k => ?_)
          · simp only [palimpsestref02_Box.j1, e1]
            rw [if_neg (by decide)]
            simp only [Option.bind_some]
            rw [if_pos (by simp; omega)]
          · simp only [palimpsestref02_Box.f, palimpsestref02_Box.j0]
            rw [if_neg h1, if_neg (by simpa using h2), hw, if_neg h3, decide_eq_false h4]
theorem ref_unbox {b : List Int} (hb : Bytes b) (hl : b.length ≤ 140737488355000) : Comes (fun k => palimpsestref02_Unbox.f k b) ((unboxOf b).1, (unboxOf b).2.isNone) := by
  by_cases h1 : (b.length : Int) < 6
  · have hr : unboxOf b = ([], some 4) := by unfold unboxOf; rw [if_pos (by omega)]
    rw [hr]
    refine Comes.congr (g := fun _ => some ([], false)) Comes.now (fun k => ?_)
    simp only [palimpsestref02_Unbox.f]
    rw [if_pos h1]
  · have r4 := rd_bytes hb 4 (by omega)
    have r5 := rd_bytes hb 5 (by omega)
    have e4 : wrap64 (256 * wrap64 (rd b 4)) = 256 * rd b 4 := by unfold wrap64; omega
    have e5 : wrap64 (rd b 5) = rd b 5 := by unfold wrap64; omega
    have e6 : wrap64 ((b.length : Int) - 6) = b.length - 6 := by unfold wrap64; omega
    have e7 : wrap64 (256 * rd b 4 + rd b 5) = 256 * rd b 4 + rd b 5 := by unfold wrap64; omega
    have e8 : wrap64 (6 + (256 * rd b 4 + rd b 5)) = 6 + (256 * rd b 4 + rd b 5) := by unfold wrap64; omega
    by_cases h3 : (b.length : Int) - 6 < 256 * rd b 4 + rd b 5
    · have hr : unboxOf b = ([], some 4) := by
        unfold unboxOf
        by_cases h2 : 65536 < b.length
        · rw [if_pos (by omega)]
        · rw [if_neg (by omega), if_pos h3]
      rw [hr]
      refine Comes.congr (g := fun _ => some ([], false)) Comes.now (fun k => ?_)
      simp only [palimpsestref02_Unbox.f]
      rw [if_neg h1, if_pos (by omega), if_pos (by omega), e4, e5, e7, e6, if_pos (by omega)]
    · generalize hin : (b.take (6 + (256 * rd b 4 + rd b 5)).toNat).drop 6 = inn
      have hinb : Bytes inn := by rw [← hin]; exact (hb.take _).drop 6
      have hinl : inn.length ≤ b.length := by rw [← hin]; simp; omega
      have hbx := ref_box (b.length : Int) hinb (by omega)
      have hr : unboxOf b = if boxOf b.length inn = (b, none) then (inn, none) else ([], some 4) := by
        by_cases h2 : 65536 < b.length
        · have hbo : boxOf b.length inn = ([], some 1) := by unfold boxOf; rw [if_pos (by omega)]
          rw [hbo, if_neg (fun q => by injection q with _ q; cases q)]
          unfold unboxOf
          rw [if_pos (by omega)]
        · unfold unboxOf
          rw [if_neg (by omega), if_neg h3, hin]
      rw [hr]
      refine Comes.congr (g := fun k => (palimpsestref02_Box.f k (b.length : Int) inn).bind fun bt284 => (if bt284.2 = 0 then (if (strOfNums bt284.1).toList = (strOfNums b).toList then ((some (([] : List Int) : List Int)).bind fun y288 => (if y288.length + inn.length < 140737488355328 then (some ((y288 ++ inn), true)) else (none))) else (some (([] : List Int), false))) else (some (([] : List Int), false)))) ?_ (fun k => ?_)
      · refine Comes.bind hbx ?_
        have hbb := boxOf_bytes (size := (b.length : Int)) hinb
        have hee : ∀ e, (boxOf (b.length : Int) inn).2 = some e → e ≠ 0 := by
          intro e he
          unfold boxOf at he
          split at he
          · injection he with he; omega
          · split at he
            · injection he with he; omega
            · cases he
        generalize boxOf (b.length : Int) inn = bx at hbb hee ⊢
        obtain ⟨bl, be⟩ := bx
        cases be with
        | some e =>
          have := hee e rfl
          refine Comes.congr (g := fun _ => some ([], false)) ?_ (fun k => ?_)
          · rw [if_neg (show ¬ ((bl, some e) = (b, (none : Option Int))) from fun q => by injection q with _ q; cases q)]
            exact Comes.now
          · simp only [Option.getD_some]
            rw [if_neg this]
        | none =>
          by_cases hq : bl = b
          · subst hq
            refine Comes.congr (g := fun _ => some (inn, true)) ?_ (fun k => ?_)
            · rw [if_pos rfl]
              exact Comes.now
            · simp only [Option.getD_none, if_true, Option.bind_some]
              rw [if_pos (by simp; omega)]
              rfl
          · refine Comes.congr (g := fun _ => some ([], false)) ?_ (fun k => ?_)
            · rw [if_neg (by simpa using hq)]
              exact Comes.now
            · simp only [Option.getD_none, if_true]
              rw [if_neg (fun e => hq (str_inj hbb hb e))]
      · simp only [palimpsestref02_Unbox.f]
        rw [if_neg h1, if_pos (by omega), if_pos (by omega), e4, e5, e7, e6, if_neg (by omega), e8, if_pos (by omega), if_pos (by omega), hin]
theorem num_f (e : Option Int) (h : ∀ x, e = some x → x ≠ 0) : palimpsestnum_Num.f e = some (e.getD 0) := by
  cases e with
  | none => rfl
  | some x =>
    unfold palimpsestnum_Num.f
    simp [h x rfl]
theorem boxOf_code {size : Int} {fl : List Int} : ∀ x, (boxOf size fl).2 = some x → x ≠ 0 := by
  intro e he
  unfold boxOf at he
  split at he
  · injection he with he; omega
  · split at he
    · injection he with he; omega
    · cases he
theorem unbox_two (b : List Int) : unboxOf b = ((unboxOf b).1, none) ∨ unboxOf b = ([], some 4) := by
  cases h : (unboxOf b).2 with
  | none => exact .inl (by rw [← h])
  | some e => exact .inr (unbox_err (by rw [h]; simp))
/-- What was put into a box comes out. -/
theorem unbox_box {size : Int} {fl : List Int} (h : (boxOf size fl).2 = none) : unboxOf (boxOf size fl).1 = (fl, none) := by
  obtain ⟨h1, h2, h3, h4, h5⟩ := boxOf_ok h
  have hlen := boxOf_len h
  have hbx : boxOf size fl = ((boxOf size fl).1, none) := by rw [← h]
  have e4 : rd (boxOf size fl).1 4 = ((fl.length : Int) / 256) % 256 := by rw [h5]; rfl
  have e5 : rd (boxOf size fl).1 5 = (fl.length : Int) % 256 := by rw [h5]; rfl
  have en : 256 * rd (boxOf size fl).1 4 + rd (boxOf size fl).1 5 = fl.length := by rw [e4, e5]; omega
  have et : ((boxOf size fl).1.take (6 + (fl.length : Int)).toNat).drop 6 = fl := by
    have e6 : (6 + (fl.length : Int)).toNat = 6 + fl.length := by omega
    rw [e6, h5]
    simp [be32, body, show 6 + fl.length = fl.length + 1 + 1 + 1 + 1 + 1 + 1 by omega]
  unfold unboxOf
  rw [if_neg (by omega), if_neg (by rw [en]; omega), en, et, hlen, if_pos hbx]
end Go.Proofs.Ytbphmpncajfaiaa.M
