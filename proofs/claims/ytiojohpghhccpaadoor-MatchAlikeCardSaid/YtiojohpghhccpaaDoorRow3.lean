/-
  A closed fact on the whole program.
-/
import Derived.Test.YtiojohpghhccpaaDoorRows
import Derived.JoinedOf
import Derived.KernelRfl
set_option linter.all false
namespace Go.Pe.Tryd
open Go.Proofs Go.Proofs.YtiojohpghhccpaaDoor
theorem p27 : (Tryd.prog.make == some Rows.matchAlikeRow.make) = true := by kernel_rfl
end Go.Pe.Tryd
