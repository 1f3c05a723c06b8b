/- Own work. This text shows: what the fixed fact comes to: piece 6. -/
import Derived.Test.YtcipamnhmeplkaaGreatDoorAl
import Derived.KernelRfl
namespace Go.AM.J
open Go Go.AM
theorem run6 : runK 21 keep6 args6 heap5 = some (res6, heap6) := by kernel_rfl
end Go.AM.J
