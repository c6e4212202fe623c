/- Joined: C1 -/
import Derived.Test.YtphjldhdnmoolaaJInvertOwns4
import Derived.Test.YtphjldhdnmoolaaRows
import Derived.Test.YtphjldhdnmoolaaProg
import Derived.JoinedOf
import Derived.KernelRfl
set_option linter.unusedVariables false
set_option linter.unusedSimpArgs false
/- Closed facts of the translated program that every row asks, each by itself. -/
namespace Go.Proofs.Ytphjldhdnmoolaa.A
open Go
set_option maxRecDepth 100000
theorem and2 {a b : Bool} (h : a = true) (g : b = true) : (a && b) = true := by rw [h, g]; rfl
theorem fact_laid : laidOutB Try.prog = true := by kernel_rfl
theorem fact_maps : mapsRowed Try.prog = true := by kernel_rfl
theorem fact_stops : (Try.prog.stops == []) = true := by kernel_rfl
theorem fact_knobs : (Try.prog.stopKnobs == []) = true := by kernel_rfl
theorem fact_keys : (Rows.checkCallsRow.plainKeys == Try.prog.plainKeys) = true := by kernel_rfl
theorem fact_heard : Try.prog.stopsHeard = true := by kernel_rfl
theorem fact_enter : Try.prog.mayEnter = true := by kernel_rfl
theorem fact_lifted : (Rows.checkCallsRow.lifted == Try.prog.liftsFinal) = true := by kernel_rfl
theorem fact_make : (Try.prog.make == some Rows.checkCallsRow.make) = true := by kernel_rfl
theorem fact_recurses (f g : FuncId) (h1 : (Try.prog.closure f).contains g = true) (h2 : ((Try.prog.funcs[g]?).elim [] Try.prog.leadsTo).contains g = true) (h3 : (Try.prog.closure g).contains g = true) : Try.prog.recurses f = true := by
  unfold Program.recurses
  rw [Bool.or_eq_true]
  right
  exact List.any_eq_true.2 ⟨g, List.contains_iff_mem.1 h1, List.any_eq_true.2 ⟨g, List.contains_iff_mem.1 h2, h3⟩⟩
end Go.Proofs.Ytphjldhdnmoolaa.A
