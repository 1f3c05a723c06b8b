/- Own work. This text shows: what the fixed fact comes to: piece 3. -/
import Derived.Test.YtcipamnhmeplkaaGreatDoorAl
import Derived.KernelRfl
namespace Go.AM.J
open Go Go.AM
theorem run3 : runK 18 keep3 args3 heap2 = some (res3, heap3) := by kernel_rfl
end Go.AM.J
