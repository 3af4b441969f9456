/-
  Closed facts on the whole program: its main, its looks.
-/
import Derived.Test.YtiojohpghhccpaaDoorCards
import Derived.JoinedOf
import Derived.KernelRfl
set_option linter.all false
namespace Go.Pe.Tryd
open Go.Proofs Go.Proofs.YtiojohpghhccpaaDoor
theorem mainIs : Tryd.pinned.checked.prog.mainIs = some (true, "7d2df7018238aaea6faf644acbdcb6bb671b7db8a8bf3521dcc9ef09298420a7".toList) := by kernel_rfl
theorem looks : true = Tryd.prog.looks [] := by kernel_rfl
end Go.Pe.Tryd
