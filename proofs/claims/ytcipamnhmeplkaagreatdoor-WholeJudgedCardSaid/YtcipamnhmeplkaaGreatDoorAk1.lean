/- Own work. This text shows: what the fixed fact comes to: piece 1. -/
import Derived.Test.YtcipamnhmeplkaaGreatDoorAl
import Derived.KernelRfl
namespace Go.AM.J
open Go Go.AM
theorem run1 : runK 16 keep1 args1 heap0 = some (res1, heap1) := by kernel_rfl
end Go.AM.J
