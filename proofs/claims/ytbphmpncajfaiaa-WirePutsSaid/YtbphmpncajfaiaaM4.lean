/- Plain: what 'large' answers. -/
import Derived.Test.YtbphmpncajfaiaaM3
import Derived.Test.YtbphmpncajfaiaaPyx9
namespace Go.Proofs.Ytbphmpncajfaiaa.M
open Go.RowKit Go.Proofs.Ytbphmpncajfaiaa.Py Go.Proofs.YtbphmpncajfaiaaW.PrintWords
set_option linter.unusedVariables false
theorem sum_l0 (all : List (List Int)) (hb : ∀ l ∈ all, l.length ≤ 140737488355328) (hl : all.length ≤ 140737488355328) : ∀ (ls ms : List (List Int)), all = ms ++ ls → ms.flatten.length ≤ 1073741824 →
    Comes (fun k => palimpsestnum_Sum.l0 k 1073741824 (ms.flatten.length : Int) all (all.length : Int) (ms.length : Int)) (if all.flatten.length ≤ 1073741824 then (all.flatten.length : Int) else 1073741824)
  | [], ms, hx, h1 => by
    have hx' : all = ms := by rw [hx, List.append_nil]
    refine Comes.step (g := fun _ => some (ms.flatten.length : Int)) ?_ (fun k => ?_)
    · rw [← hx'] at h1 ⊢
      rw [if_pos h1]
      exact Comes.now
    · simp only [palimpsestnum_Sum.l0]
      rw [if_neg (by rw [hx']; omega)]
  | l :: ls, ms, hx, h1 => by
    have hm := hb l (by rw [hx]; simp)
    have hal : all.length = ms.length + (ls.length + 1) := by rw [hx]; simp
    have hf : all.flatten.length = ms.flatten.length + l.length + ls.flatten.length := by rw [hx]; simp; omega
    have hrd : rd_L2 all (ms.length : Int) = l := by rw [hx]; exact rd2_cons
    have e1 : wrap64 (1073741824 - (ms.flatten.length : Int)) = 1073741824 - (ms.flatten.length : Int) := by unfold wrap64; omega
    have e2 : wrap64 ((ms.flatten.length : Int) + (l.length : Int)) = (ms.flatten.length : Int) + (l.length : Int) := by unfold wrap64; omega
    by_cases hc : (l.length : Int) > 1073741824 - (ms.flatten.length : Int)
    · refine Comes.step (g := fun _ => some 1073741824) ?_ (fun k => ?_)
      · rw [if_neg (by omega)]
        exact Comes.now
      · simp only [palimpsestnum_Sum.l0]
        rw [if_pos (by omega), if_pos (by omega), if_pos (by omega), hrd, e1, if_pos hc]
    · have hfm : (ms ++ [l]).flatten.length = ms.flatten.length + l.length := by simp
      have ih := sum_l0 all hb hl ls (ms ++ [l]) (by rw [hx]; simp) (by omega)
      refine Comes.step ih (fun k => ?_)
      simp only [palimpsestnum_Sum.l0]
      rw [if_pos (by omega), if_pos (by omega), if_pos (by omega), hrd, e1, if_neg hc, e2, w1 (by omega) (by omega)]
      have e : (((ms ++ [l]).length : Nat) : Int) = (ms.length : Int) + 1 := by simp
      have e' : (((ms ++ [l]).flatten.length : Nat) : Int) = (ms.flatten.length : Int) + (l.length : Int) := by omega
      rw [e, e']
theorem large_comes {ls : List (List Int)} (hb : ∀ l ∈ ls, l.length ≤ 140737488355328) (hl : ls.length ≤ 140737488355328) : Comes (fun k => palimpsestlaw02_large.f k ls) (decide (131072 < ls.flatten.length)) := by
  have h := sum_l0 ls hb hl ls [] rfl (by simp)
  refine (Comes.bind (g := fun k t => some (decide (t > 131072))) h (q := decide (131072 < ls.flatten.length)) ?_).congr (fun k => rfl)
  refine Comes.congr (g := fun _ => some (decide (131072 < ls.flatten.length))) Comes.now (fun k => ?_)
  congr 1
  rw [decide_eq_decide]
  split <;> omega
end Go.Proofs.Ytbphmpncajfaiaa.M
