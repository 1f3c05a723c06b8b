/- Own work. This text shows: that these are the program's, second part. -/
import Derived.Test.YtcipamnhmeplkaaGreatDoorJt
import Derived.Test.YtcipamnhmeplkaaGreatDoorProg
import Derived.KernelRfl
set_option linter.unusedVariables false
namespace Go.AM.J
open Go Go.AM Go.Proofs
theorem t4 : (Tryz.prog.funcs[4]?).bind (compFn Tryz.prog G a4) = some i4 := by kernel_rfl
theorem t8 : (Tryz.prog.funcs[8]?).bind (compFn Tryz.prog G a8) = some i8 := by kernel_rfl
theorem t12 : (Tryz.prog.funcs[12]?).bind (compFn Tryz.prog G a12) = some i12 := by kernel_rfl
theorem t16 : (Tryz.prog.funcs[16]?).bind (compFn Tryz.prog G a16) = some i16 := by kernel_rfl
theorem t20 : (Tryz.prog.funcs[20]?).bind (compFn Tryz.prog G a20) = some i20 := by kernel_rfl
theorem t24 : (Tryz.prog.funcs[24]?).bind (compFn Tryz.prog G a24) = some i24 := by kernel_rfl
theorem t28 : (Tryz.prog.funcs[28]?).bind (compFn Tryz.prog G a28) = some i28 := by kernel_rfl
theorem t32 : (Tryz.prog.funcs[32]?).bind (compFn Tryz.prog G a32) = some i32 := by kernel_rfl
theorem t36 : (Tryz.prog.funcs[36]?).bind (compFn Tryz.prog G a36) = some i36 := by kernel_rfl
theorem t40 : (Tryz.prog.funcs[40]?).bind (compFn Tryz.prog G a40) = some i40 := by kernel_rfl
theorem t44 : (Tryz.prog.funcs[44]?).bind (compFn Tryz.prog G a44) = some i44 := by kernel_rfl
theorem t48 : (Tryz.prog.funcs[48]?).bind (compFn Tryz.prog G a48) = some i48 := by kernel_rfl
theorem t52 : (Tryz.prog.funcs[52]?).bind (compFn Tryz.prog G a52) = some i52 := by kernel_rfl
theorem t56 : (Tryz.prog.funcs[56]?).bind (compFn Tryz.prog G a56) = some i56 := by kernel_rfl
theorem t60 : (Tryz.prog.funcs[60]?).bind (compFn Tryz.prog G a60) = some i60 := by kernel_rfl
theorem t65 : (Tryz.prog.funcs[65]?).bind (compFn Tryz.prog G a65) = some i65 := by kernel_rfl
theorem t69 : (Tryz.prog.funcs[69]?).bind (compFn Tryz.prog G a69) = some i69 := by kernel_rfl
theorem t73 : (Tryz.prog.funcs[73]?).bind (compFn Tryz.prog G a73) = some i73 := by kernel_rfl
theorem t78 : (Tryz.prog.funcs[78]?).bind (compFn Tryz.prog G a78) = some i78 := by kernel_rfl
theorem t84 : (Tryz.prog.funcs[84]?).bind (compFn Tryz.prog G a84) = some i84 := by kernel_rfl
theorem t88 : (Tryz.prog.funcs[88]?).bind (compFn Tryz.prog G a88) = some i88 := by kernel_rfl
theorem t92 : (Tryz.prog.funcs[92]?).bind (compFn Tryz.prog G a92) = some i92 := by kernel_rfl
theorem t96 : (Tryz.prog.funcs[96]?).bind (compFn Tryz.prog G a96) = some i96 := by kernel_rfl
theorem t102 : (Tryz.prog.funcs[102]?).bind (compFn Tryz.prog G a102) = some i102 := by kernel_rfl
theorem t107 : (Tryz.prog.funcs[107]?).bind (compFn Tryz.prog G a107) = some i107 := by kernel_rfl
theorem t111 : (Tryz.prog.funcs[111]?).bind (compFn Tryz.prog G a111) = some i111 := by kernel_rfl
theorem t119 : (Tryz.prog.funcs[119]?).bind (compFn Tryz.prog G a119) = some i119 := by kernel_rfl
theorem t124 : (Tryz.prog.funcs[124]?).bind (compFn Tryz.prog G a124) = some i124 := by kernel_rfl
theorem t128 : (Tryz.prog.funcs[128]?).bind (compFn Tryz.prog G a128) = some i128 := by kernel_rfl
theorem t134 : (Tryz.prog.funcs[134]?).bind (compFn Tryz.prog G a134) = some i134 := by kernel_rfl
theorem t138 : (Tryz.prog.funcs[138]?).bind (compFn Tryz.prog G a138) = some i138 := by kernel_rfl
theorem t146 : (Tryz.prog.funcs[146]?).bind (compFn Tryz.prog G a146) = some i146 := by kernel_rfl
theorem t157 : (Tryz.prog.funcs[157]?).bind (compFn Tryz.prog G a157) = some i157 := by kernel_rfl
theorem t168 : (Tryz.prog.funcs[168]?).bind (compFn Tryz.prog G a168) = some i168 := by kernel_rfl
end Go.AM.J
