/-
  Closed facts on the whole program, each by itself.
-/
import Derived.Test.YtiojohpghhccpaaDoorRows
import Derived.JoinedOf
import Derived.KernelRfl
set_option linter.all false
namespace Go.Pe.Tryd
open Go.Proofs Go.Proofs.YtiojohpghhccpaaDoor
theorem p1 : laidOutB Tryd.prog = true := by kernel_rfl
theorem p2 : mapsRowed Tryd.prog = true := by kernel_rfl
theorem p22 : (Rows.matchAlikeRow.plainKeys == Tryd.prog.plainKeys) = true := by kernel_rfl
theorem p24 : Tryd.prog.stopsHeard = true := by kernel_rfl
theorem p26 : (Rows.matchAlikeRow.lifted == Tryd.prog.liftsFinal) = true := by kernel_rfl
end Go.Pe.Tryd
