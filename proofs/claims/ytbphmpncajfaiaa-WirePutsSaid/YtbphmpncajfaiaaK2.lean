/- Words: two errors of one integer type held against each other. -/
import Derived.LaidEql
import Derived.Test.YtbphmpncajfaiaaK0
namespace Go.Proofs.Ytbphmpncajfaiaa.K
open Go.RowKit
theorem equalIn_errs {P : Program} (w : World) (d : Nat) {ti tn : TypeId} {ms : Array (String × TypeId)} {i : TypeInfo} {k : IntKind} (a b : Int) (hi : P.underlying ti = some (.interface ms)) (hn : P.underlying tn = some (.int k)) (hinfo : P.info? tn = some i) (hcomp : i.comparable = true) :
    (Op.equalIn (d + 2) ti (.iface tn (.int k a)) (.iface tn (.int k b))).run P w = .ok (a == b) w := by
  simp [Op.equalIn, run_underlying hi, run_underlying hn, typeInfo, hinfo, hcomp]
theorem eql_errs {P : Program} (w : World) {ti tn : TypeId} {ms : Array (String × TypeId)} {i : TypeInfo} {k : IntKind} (a b : Int) (hi : P.underlying ti = some (.interface ms)) (hn : P.underlying tn = some (.int k)) (hinfo : P.info? tn = some i) (hcomp : i.comparable = true) :
    (binOp .eql ti (.iface tn (.int k a)) (.iface tn (.int k b))).run P w = .ok (.bool (a == b)) w := by
  simp only [binOp]
  simp [Op.equal, Op.maxDepth, equalIn_errs w 9998 a b hi hn hinfo hcomp]
theorem neq_errs {P : Program} (w : World) {ti tn : TypeId} {ms : Array (String × TypeId)} {i : TypeInfo} {k : IntKind} (a b : Int) (hi : P.underlying ti = some (.interface ms)) (hn : P.underlying tn = some (.int k)) (hinfo : P.info? tn = some i) (hcomp : i.comparable = true) :
    (binOp .neq ti (.iface tn (.int k a)) (.iface tn (.int k b))).run P w = .ok (.bool (!(a == b))) w := by
  simp only [binOp]
  simp [Op.equal, Op.maxDepth, equalIn_errs w 9998 a b hi hn hinfo hcomp]
/-- The program's own errors. -/
theorem info49 : ∃ i, Try.prog.info? 49 = some i ∧ i.comparable = true := by
  obtain ⟨i, hi⟩ : ∃ i, Try.prog.info? 49 = some i := Option.isSome_iff_exists.1 (by kernel_rfl)
  have h : (Try.prog.info? 49).map (·.comparable) = some true := by kernel_rfl
  rw [hi] at h
  exact ⟨i, hi, by simpa using h⟩
theorem eql49 (W : World) (a b : Int) : (binOp .eql 40 (.iface 49 (.int .i64 a)) (.iface 49 (.int .i64 b))).run Try.prog W = .ok (.bool (a == b)) W := by
  obtain ⟨i, hi, hc⟩ := info49
  exact eql_errs W a b Try.underlying40 Try.underlying49 hi hc
theorem neq49 (W : World) (a b : Int) : (binOp .neq 40 (.iface 49 (.int .i64 a)) (.iface 49 (.int .i64 b))).run Try.prog W = .ok (.bool (!(a == b))) W := by
  obtain ⟨i, hi, hc⟩ := info49
  exact neq_errs W a b Try.underlying40 Try.underlying49 hi hc
end Go.Proofs.Ytbphmpncajfaiaa.K
