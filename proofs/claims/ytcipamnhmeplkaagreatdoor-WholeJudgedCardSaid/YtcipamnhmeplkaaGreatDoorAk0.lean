/- Own work. This text shows: what the fixed fact comes to: piece 0. -/
import Derived.Test.YtcipamnhmeplkaaGreatDoorAl
import Derived.KernelRfl
namespace Go.AM.J
open Go Go.AM
theorem run0 : runK 15 keep0 args0 ⟨.lf, 0⟩ = some (res0, heap0) := by kernel_rfl
end Go.AM.J
