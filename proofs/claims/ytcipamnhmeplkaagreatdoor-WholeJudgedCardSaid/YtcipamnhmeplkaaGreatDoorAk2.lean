/- Own work. This text shows: what the fixed fact comes to: piece 2. -/
import Derived.Test.YtcipamnhmeplkaaGreatDoorAl
import Derived.KernelRfl
namespace Go.AM.J
open Go Go.AM
theorem run2 : runK 17 keep2 args2 heap1 = some (res2, heap2) := by kernel_rfl
end Go.AM.J
