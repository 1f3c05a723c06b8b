/- Own work. This text shows: that these are the program's, fourth part. -/
import Derived.Test.YtcipamnhmeplkaaGreatDoorJt
import Derived.Test.YtcipamnhmeplkaaGreatDoorProg
import Derived.KernelRfl
set_option linter.unusedVariables false
namespace Go.AM.J
open Go Go.AM Go.Proofs
theorem t6 : (Tryz.prog.funcs[6]?).bind (compFn Tryz.prog G a6) = some i6 := by kernel_rfl
theorem t10 : (Tryz.prog.funcs[10]?).bind (compFn Tryz.prog G a10) = some i10 := by kernel_rfl
theorem t14 : (Tryz.prog.funcs[14]?).bind (compFn Tryz.prog G a14) = some i14 := by kernel_rfl
theorem t18 : (Tryz.prog.funcs[18]?).bind (compFn Tryz.prog G a18) = some i18 := by kernel_rfl
theorem t22 : (Tryz.prog.funcs[22]?).bind (compFn Tryz.prog G a22) = some i22 := by kernel_rfl
theorem t26 : (Tryz.prog.funcs[26]?).bind (compFn Tryz.prog G a26) = some i26 := by kernel_rfl
theorem t30 : (Tryz.prog.funcs[30]?).bind (compFn Tryz.prog G a30) = some i30 := by kernel_rfl
theorem t34 : (Tryz.prog.funcs[34]?).bind (compFn Tryz.prog G a34) = some i34 := by kernel_rfl
theorem t38 : (Tryz.prog.funcs[38]?).bind (compFn Tryz.prog G a38) = some i38 := by kernel_rfl
theorem t42 : (Tryz.prog.funcs[42]?).bind (compFn Tryz.prog G a42) = some i42 := by kernel_rfl
theorem t46 : (Tryz.prog.funcs[46]?).bind (compFn Tryz.prog G a46) = some i46 := by kernel_rfl
theorem t50 : (Tryz.prog.funcs[50]?).bind (compFn Tryz.prog G a50) = some i50 := by kernel_rfl
theorem t54 : (Tryz.prog.funcs[54]?).bind (compFn Tryz.prog G a54) = some i54 := by kernel_rfl
theorem t58 : (Tryz.prog.funcs[58]?).bind (compFn Tryz.prog G a58) = some i58 := by kernel_rfl
theorem t62 : (Tryz.prog.funcs[62]?).bind (compFn Tryz.prog G a62) = some i62 := by kernel_rfl
theorem t67 : (Tryz.prog.funcs[67]?).bind (compFn Tryz.prog G a67) = some i67 := by kernel_rfl
theorem t71 : (Tryz.prog.funcs[71]?).bind (compFn Tryz.prog G a71) = some i71 := by kernel_rfl
theorem t75 : (Tryz.prog.funcs[75]?).bind (compFn Tryz.prog G a75) = some i75 := by kernel_rfl
theorem t80 : (Tryz.prog.funcs[80]?).bind (compFn Tryz.prog G a80) = some i80 := by kernel_rfl
theorem t86 : (Tryz.prog.funcs[86]?).bind (compFn Tryz.prog G a86) = some i86 := by kernel_rfl
theorem t90 : (Tryz.prog.funcs[90]?).bind (compFn Tryz.prog G a90) = some i90 := by kernel_rfl
theorem t94 : (Tryz.prog.funcs[94]?).bind (compFn Tryz.prog G a94) = some i94 := by kernel_rfl
theorem t98 : (Tryz.prog.funcs[98]?).bind (compFn Tryz.prog G a98) = some i98 := by kernel_rfl
theorem t104 : (Tryz.prog.funcs[104]?).bind (compFn Tryz.prog G a104) = some i104 := by kernel_rfl
theorem t109 : (Tryz.prog.funcs[109]?).bind (compFn Tryz.prog G a109) = some i109 := by kernel_rfl
theorem t113 : (Tryz.prog.funcs[113]?).bind (compFn Tryz.prog G a113) = some i113 := by kernel_rfl
theorem t122 : (Tryz.prog.funcs[122]?).bind (compFn Tryz.prog G a122) = some i122 := by kernel_rfl
theorem t126 : (Tryz.prog.funcs[126]?).bind (compFn Tryz.prog G a126) = some i126 := by kernel_rfl
theorem t132 : (Tryz.prog.funcs[132]?).bind (compFn Tryz.prog G a132) = some i132 := by kernel_rfl
theorem t136 : (Tryz.prog.funcs[136]?).bind (compFn Tryz.prog G a136) = some i136 := by kernel_rfl
theorem t142 : (Tryz.prog.funcs[142]?).bind (compFn Tryz.prog G a142) = some i142 := by kernel_rfl
theorem t153 : (Tryz.prog.funcs[153]?).bind (compFn Tryz.prog G a153) = some i153 := by kernel_rfl
theorem t164 : (Tryz.prog.funcs[164]?).bind (compFn Tryz.prog G a164) = some i164 := by kernel_rfl
theorem t172 : (Tryz.prog.funcs[172]?).bind (compFn Tryz.prog G a172) = some i172 := by kernel_rfl
end Go.AM.J
