/- Joined: C0 -/
import Derived.Test.YtphjldhdnmoolaaJBase4
import Derived.Below
import Derived.ProofKit
import Derived.OpenShut
import Derived.ShutString
import Derived.ChangeOld
import Derived.ChangeMaps5
import Derived.SizedLaws
import Derived.Lib.SmallJoins
import Derived.RowKit
set_option linter.unusedVariables false
set_option linter.unusedSimpArgs false
/- Words for the rows: what came in, seen by the abstract machine. -/
namespace Go.Proofs.Ytphjldhdnmoolaa.A
open Go Go.ChangeShapes Go.WideShapes Go.ChangeAt Go.RowKit Go.Joins
theorem own : ownKnob Try.prog.godebug = none := by kernel_rfl
theorem laidOut : laidOutB Try.prog = true := by kernel_rfl
def K0 (w : World) : K := ⟨[], [], fun b j => ∃ v, w.cell? ⟨b, j, none⟩ = some v⟩
def M0 : Mem := ⟨[], []⟩
theorem inv0 (w : World) : Inv (wr0 (K0 w) w) (K0 w) w M0 :=
  ⟨rfl, fun i j b h => by simp [K0] at h, fun o b x h => by simp [K0] at h, rfl, fun k r h => by simp [K0] at h, fun i j r r' h => by simp [K0] at h,
    fun b j h => ⟨by simp [K0], h⟩, fun b h => by simp [K0] at h, fun k r h => by simp [K0] at h, fun b h => .inr (.inr h)⟩
theorem calls_of_sim {f : FuncId} {args : List IV} {w : World} {vs : Array Value} (h : Sim f args M0 (fun r m' => r = .v (.bool true) ∧ m' = M0)) (hl : RelL (K0 w) w args vs.toList) :
    Calls Try.prog f vs w fun e w' => e = .returned (.bool true) ∧ Below w.heap.size w w' := by
  refine (h (K0 w) w vs (inv0 w) hl).mono ?_
  rintro e w' ⟨κ', v, r, m', rfl, hev, hi, hr, rfl, rfl⟩
  refine ⟨?_, hev.os, hev.tape, hev.output, hev.size, fun k hk => (hev.keep k hk ?_).1⟩
  · simp only [Rel] at hr; rw [hr]
  · rintro (h | ⟨k, r, h, _⟩ | h)
    · simp [K0] at h
    · simp [K0] at h
    · omega
theorem places_lt {H : Type} {enc : TypeId × Value → H} {P : Program} {W : World} {base : Nat} {spare : Nat → Bool} {held : Bool} {t : TypeId} {v : Value} {d : DataW H} {p : List MemPlace} (h : DataW.Trod enc P W base spare held t v d p) : ∀ x ∈ p, x.block < W.heap.size := by
  obtain ⟨m, hm⟩ := h
  exact DataW.trod_lt m _ _ _ hm
theorem relC_cells {w : World} {b : Nat} : ∀ {l : List Value} {off : Nat}, (∀ i, i < l.length → w.cell? ⟨b, off + i, none⟩ = l[i]?) → RelC (K0 w) w b off (l.map .v)
  | [], _, _ => by simp [RelC]
  | x :: l, off, h => by
    have h0 := h 0 (by simp)
    simp only [List.map_cons, RelC]
    refine ⟨⟨x, by simpa using h0⟩, ⟨x, by simpa using h0, rfl⟩, relC_cells fun i hi => ?_⟩
    have h1 := h (i + 1) (by simpa using hi)
    simpa [Nat.add_assoc, Nat.add_comm 1 i] using h1
/-- A text that came in. -/
theorem open_string {H : Type} {enc : TypeId × Value → H} {P : Program} {w : World} {base : Nat} {spare : Nat → Bool} {held : Bool} {r : Reach} {b0 : Nat} {t : TypeId} {v : Value} {d : DataW H} {ps : List MemPlace} (ht : P.underlying t = some .string) (hval : Value.okWide P w r b0 t v) (hd : DataW.Trod enc P w base spare held t v d ps) :
    ∃ s : ByteArray, v = .string s ∧ d = .lit (.string s.data.toList) ∧ ps = [] ∧ s.size ≤ maxLen := by
  obtain ⟨n, rfl⟩ := okWide_string ht hval
  obtain ⟨fuel, hf⟩ := hd
  obtain ⟨n', h, hx, hw⟩ := DataW.trod_string ht hf
  simp [Value.cells] at h
  subst h
  simp only [Prod.mk.injEq] at hx
  exact ⟨n, rfl, hx.1, hx.2, hw⟩
/-- A slice of whole numbers that came in. -/
theorem rel_ints {H : Type} {enc : TypeId × Value → H} {P : Program} {W : World} {t e : TypeId} {k : IntKind} {fuel : Nat} {cs : List Value} {x : DataW H × List MemPlace} {ts : List TypeId} {ds : List (DataW H)} {j : Nat} (hu : P.underlying t = some (.slice e)) (he : P.underlying e = some (.int k)) (hc : P.cellsOf e = 1)
    (h : DataW.trod enc P W 0 (fun _ => true) true fuel t cs = some x) (hsz : (DataW.weightsEach P ts ds).all (· ≤ reachBytes) = true) (ht : ts[j]? = some t) (hd : ds[j]? = some x.1) {B : Nat} (hB : P.bytesOf e = B) :
    ∃ (A : Option Addr) (l : List Int) (c : Nat), cs = [.slice A l.length c] ∧ l.length ≤ c ∧ Rel (K0 W) W (.sl .sh l.length (l.map (IV.v <| .int k ·))) (.slice A l.length c) ∧ (∀ n ∈ l, (Lit.int k n).wf = true) ∧ l.length * B ≤ 140737488351232 := by
  rcases open_ints hu he hc h with ⟨rfl, rfl⟩ | ⟨a, len, cap, zs, rfl, _, hl, hm, hz, hx, hcell, hwz⟩
  · exact ⟨none, [], 0, rfl, Nat.le_refl _, ⟨none, 0, rfl, Nat.le_refl _, trivial, .inl rfl⟩, (fun n hn => by cases hn), by simp⟩
  · have hz' : zs.length = cap := by simpa using hz
    have hlen : (zs.take len).length = len := by rw [List.length_take]; omega
    have hsize := sized_slice hsz ht (elems := lits k (zs.take len)) (spare := lits k (zs.drop len)) (by rw [hd, hx]) hu
    rw [hB] at hsize
    have h1 : (lits (H := H) k (zs.take len)).length + (lits (H := H) k (zs.drop len)).length = zs.length := by
      simp [lits]
      omega
    rw [h1] at hsize
    refine ⟨some a, zs.take len, cap, by rw [hlen], by rw [hlen]; omega, ⟨some a, cap, rfl, by rw [hlen]; omega, trivial, ?_⟩, fun n hn => hwz n (List.mem_of_mem_take hn), by rw [hlen]; exact Nat.le_trans (Nat.mul_le_mul_right _ (by omega)) hsize⟩
    by_cases h0 : len = 0
    · left; subst h0; rfl
    · right
      have hg : ∀ i, i < (zs.take len).length → W.cell? (a.add i) = ((zs.take len).map (Value.int k))[i]? := by
        intro i hi
        rw [hlen] at hi
        rw [hcell i (by omega), List.getElem?_map, List.getElem?_take_of_lt hi, List.getElem?_eq_getElem (by omega), List.getD_eq_getElem?_getD, List.getElem?_eq_getElem (by omega)]; rfl
      have hsp : a.spot = none := by
        have := hg 0 (by rw [hlen]; omega)
        cases hs : a.spot with
        | none => rfl
        | some q =>
          exfalso
          have h2 := hcell 0 (by omega)
          unfold World.cell? at h2
          split at h2
          · have : (a.add 0).spot = some q := hs
            rw [this] at h2; simp at h2
          · cases h2
      obtain ⟨b, off, sp⟩ := a
      subst hsp
      refine ⟨b, off, rfl, ?_⟩
      have := relC_cells (w := W) (b := b) (off := off) (l := (zs.take len).map (Value.int k)) (fun i hi => by rw [List.length_map] at hi; have h5 := hg i hi; by_cases e0 : i = 0 <;> simpa [Addr.add, e0] using h5)
      rw [List.map_map] at this
      exact this
theorem relL_nil (κ : K) (w : World) : RelL κ w [] [] := rfl
theorem relL_cons {κ : K} {w : World} {i : IV} {v : Value} {l : List IV} {vs : List Value} (h : Rel κ w i v) (g : RelL κ w l vs) : RelL κ w (i :: l) (v :: vs) := ⟨v, vs, rfl, h, g⟩
theorem rel_v (κ : K) (w : World) (x : Value) : Rel κ w (.v x) x := rfl
theorem int_wf {x : Int} (h : (Lit.int .i64 x).wf = true) : -9223372036854775808 ≤ x ∧ x ≤ 9223372036854775807 := by
  simp [Lit.wf, IntKind.min, IntKind.max, IntKind.signed, IntKind.bits] at h
  omega
end Go.Proofs.Ytphjldhdnmoolaa.A
