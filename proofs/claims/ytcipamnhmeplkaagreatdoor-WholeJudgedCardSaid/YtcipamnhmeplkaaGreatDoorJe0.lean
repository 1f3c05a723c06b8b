/- Own work. This text shows: that these are the program's, first part. -/
import Derived.Test.YtcipamnhmeplkaaGreatDoorJt
import Derived.Test.YtcipamnhmeplkaaGreatDoorProg
import Derived.KernelRfl
set_option linter.unusedVariables false
namespace Go.AM.J
open Go Go.AM Go.Proofs
theorem t3 : (Tryz.prog.funcs[3]?).bind (compFn Tryz.prog G a3) = some i3 := by kernel_rfl
theorem t7 : (Tryz.prog.funcs[7]?).bind (compFn Tryz.prog G a7) = some i7 := by kernel_rfl
theorem t11 : (Tryz.prog.funcs[11]?).bind (compFn Tryz.prog G a11) = some i11 := by kernel_rfl
theorem t15 : (Tryz.prog.funcs[15]?).bind (compFn Tryz.prog G a15) = some i15 := by kernel_rfl
theorem t19 : (Tryz.prog.funcs[19]?).bind (compFn Tryz.prog G a19) = some i19 := by kernel_rfl
theorem t23 : (Tryz.prog.funcs[23]?).bind (compFn Tryz.prog G a23) = some i23 := by kernel_rfl
theorem t27 : (Tryz.prog.funcs[27]?).bind (compFn Tryz.prog G a27) = some i27 := by kernel_rfl
theorem t31 : (Tryz.prog.funcs[31]?).bind (compFn Tryz.prog G a31) = some i31 := by kernel_rfl
theorem t35 : (Tryz.prog.funcs[35]?).bind (compFn Tryz.prog G a35) = some i35 := by kernel_rfl
theorem t39 : (Tryz.prog.funcs[39]?).bind (compFn Tryz.prog G a39) = some i39 := by kernel_rfl
theorem t43 : (Tryz.prog.funcs[43]?).bind (compFn Tryz.prog G a43) = some i43 := by kernel_rfl
theorem t47 : (Tryz.prog.funcs[47]?).bind (compFn Tryz.prog G a47) = some i47 := by kernel_rfl
theorem t51 : (Tryz.prog.funcs[51]?).bind (compFn Tryz.prog G a51) = some i51 := by kernel_rfl
theorem t55 : (Tryz.prog.funcs[55]?).bind (compFn Tryz.prog G a55) = some i55 := by kernel_rfl
theorem t59 : (Tryz.prog.funcs[59]?).bind (compFn Tryz.prog G a59) = some i59 := by kernel_rfl
theorem t64 : (Tryz.prog.funcs[64]?).bind (compFn Tryz.prog G a64) = some i64 := by kernel_rfl
theorem t68 : (Tryz.prog.funcs[68]?).bind (compFn Tryz.prog G a68) = some i68 := by kernel_rfl
theorem t72 : (Tryz.prog.funcs[72]?).bind (compFn Tryz.prog G a72) = some i72 := by kernel_rfl
theorem t76 : (Tryz.prog.funcs[76]?).bind (compFn Tryz.prog G a76) = some i76 := by kernel_rfl
theorem t81 : (Tryz.prog.funcs[81]?).bind (compFn Tryz.prog G a81) = some i81 := by kernel_rfl
theorem t87 : (Tryz.prog.funcs[87]?).bind (compFn Tryz.prog G a87) = some i87 := by kernel_rfl
theorem t91 : (Tryz.prog.funcs[91]?).bind (compFn Tryz.prog G a91) = some i91 := by kernel_rfl
theorem t95 : (Tryz.prog.funcs[95]?).bind (compFn Tryz.prog G a95) = some i95 := by kernel_rfl
theorem t101 : (Tryz.prog.funcs[101]?).bind (compFn Tryz.prog G a101) = some i101 := by kernel_rfl
theorem t105 : (Tryz.prog.funcs[105]?).bind (compFn Tryz.prog G a105) = some i105 := by kernel_rfl
theorem t110 : (Tryz.prog.funcs[110]?).bind (compFn Tryz.prog G a110) = some i110 := by kernel_rfl
theorem t118 : (Tryz.prog.funcs[118]?).bind (compFn Tryz.prog G a118) = some i118 := by kernel_rfl
theorem t123 : (Tryz.prog.funcs[123]?).bind (compFn Tryz.prog G a123) = some i123 := by kernel_rfl
theorem t127 : (Tryz.prog.funcs[127]?).bind (compFn Tryz.prog G a127) = some i127 := by kernel_rfl
theorem t133 : (Tryz.prog.funcs[133]?).bind (compFn Tryz.prog G a133) = some i133 := by kernel_rfl
theorem t137 : (Tryz.prog.funcs[137]?).bind (compFn Tryz.prog G a137) = some i137 := by kernel_rfl
theorem t143 : (Tryz.prog.funcs[143]?).bind (compFn Tryz.prog G a143) = some i143 := by kernel_rfl
theorem t156 : (Tryz.prog.funcs[156]?).bind (compFn Tryz.prog G a156) = some i156 := by kernel_rfl
theorem t165 : (Tryz.prog.funcs[165]?).bind (compFn Tryz.prog G a165) = some i165 := by kernel_rfl
end Go.AM.J
