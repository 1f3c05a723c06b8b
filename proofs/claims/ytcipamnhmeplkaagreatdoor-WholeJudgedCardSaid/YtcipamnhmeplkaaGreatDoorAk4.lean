/- Own work. This text shows: what the fixed fact comes to: piece 4. -/
import Derived.Test.YtcipamnhmeplkaaGreatDoorMo
import Derived.KernelRfl
namespace Go.AM.J
open Go Go.AM
theorem run4 : runK4 19 keep4 args4 heap3 = some (res4, heap4) := by kernel_rfl
end Go.AM.J
