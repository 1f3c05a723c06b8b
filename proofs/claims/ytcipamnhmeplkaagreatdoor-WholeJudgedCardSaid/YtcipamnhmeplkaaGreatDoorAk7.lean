/- Own work. This text shows: what the fixed fact comes to: piece 7. -/
import Derived.Test.YtcipamnhmeplkaaGreatDoorMo
import Derived.KernelRfl
namespace Go.AM.J
open Go Go.AM
theorem run44 : xCall fns2 prim 100000 200 44 args44 heap44 = some (res44, heap44r) := by kernel_rfl
end Go.AM.J
