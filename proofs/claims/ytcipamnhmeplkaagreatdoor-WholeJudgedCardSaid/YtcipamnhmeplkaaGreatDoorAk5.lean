/- Own work. This text shows: what the fixed fact comes to: piece 5. -/
import Derived.Test.YtcipamnhmeplkaaGreatDoorAl
import Derived.KernelRfl
namespace Go.AM.J
open Go Go.AM
theorem run5 : runK 20 keep5 args5 heap4 = some (res5, heap5) := by kernel_rfl
end Go.AM.J
