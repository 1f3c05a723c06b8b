/- Own work. This text shows: that these are the program's, third part. -/
import Derived.Test.YtcipamnhmeplkaaGreatDoorJt
import Derived.Test.YtcipamnhmeplkaaGreatDoorProg
import Derived.KernelRfl
set_option linter.unusedVariables false
namespace Go.AM.J
open Go Go.AM Go.Proofs
theorem t5 : (Tryz.prog.funcs[5]?).bind (compFn Tryz.prog G a5) = some i5 := by kernel_rfl
theorem t9 : (Tryz.prog.funcs[9]?).bind (compFn Tryz.prog G a9) = some i9 := by kernel_rfl
theorem t13 : (Tryz.prog.funcs[13]?).bind (compFn Tryz.prog G a13) = some i13 := by kernel_rfl
theorem t17 : (Tryz.prog.funcs[17]?).bind (compFn Tryz.prog G a17) = some i17 := by kernel_rfl
theorem t21 : (Tryz.prog.funcs[21]?).bind (compFn Tryz.prog G a21) = some i21 := by kernel_rfl
theorem t25 : (Tryz.prog.funcs[25]?).bind (compFn Tryz.prog G a25) = some i25 := by kernel_rfl
theorem t29 : (Tryz.prog.funcs[29]?).bind (compFn Tryz.prog G a29) = some i29 := by kernel_rfl
theorem t33 : (Tryz.prog.funcs[33]?).bind (compFn Tryz.prog G a33) = some i33 := by kernel_rfl
theorem t37 : (Tryz.prog.funcs[37]?).bind (compFn Tryz.prog G a37) = some i37 := by kernel_rfl
theorem t41 : (Tryz.prog.funcs[41]?).bind (compFn Tryz.prog G a41) = some i41 := by kernel_rfl
theorem t45 : (Tryz.prog.funcs[45]?).bind (compFn Tryz.prog G a45) = some i45 := by kernel_rfl
theorem t49 : (Tryz.prog.funcs[49]?).bind (compFn Tryz.prog G a49) = some i49 := by kernel_rfl
theorem t53 : (Tryz.prog.funcs[53]?).bind (compFn Tryz.prog G a53) = some i53 := by kernel_rfl
theorem t57 : (Tryz.prog.funcs[57]?).bind (compFn Tryz.prog G a57) = some i57 := by kernel_rfl
theorem t61 : (Tryz.prog.funcs[61]?).bind (compFn Tryz.prog G a61) = some i61 := by kernel_rfl
theorem t66 : (Tryz.prog.funcs[66]?).bind (compFn Tryz.prog G a66) = some i66 := by kernel_rfl
theorem t70 : (Tryz.prog.funcs[70]?).bind (compFn Tryz.prog G a70) = some i70 := by kernel_rfl
theorem t74 : (Tryz.prog.funcs[74]?).bind (compFn Tryz.prog G a74) = some i74 := by kernel_rfl
theorem t79 : (Tryz.prog.funcs[79]?).bind (compFn Tryz.prog G a79) = some i79 := by kernel_rfl
theorem t85 : (Tryz.prog.funcs[85]?).bind (compFn Tryz.prog G a85) = some i85 := by kernel_rfl
theorem t89 : (Tryz.prog.funcs[89]?).bind (compFn Tryz.prog G a89) = some i89 := by kernel_rfl
theorem t93 : (Tryz.prog.funcs[93]?).bind (compFn Tryz.prog G a93) = some i93 := by kernel_rfl
theorem t97 : (Tryz.prog.funcs[97]?).bind (compFn Tryz.prog G a97) = some i97 := by kernel_rfl
theorem t103 : (Tryz.prog.funcs[103]?).bind (compFn Tryz.prog G a103) = some i103 := by kernel_rfl
theorem t108 : (Tryz.prog.funcs[108]?).bind (compFn Tryz.prog G a108) = some i108 := by kernel_rfl
theorem t112 : (Tryz.prog.funcs[112]?).bind (compFn Tryz.prog G a112) = some i112 := by kernel_rfl
theorem t121 : (Tryz.prog.funcs[121]?).bind (compFn Tryz.prog G a121) = some i121 := by kernel_rfl
theorem t125 : (Tryz.prog.funcs[125]?).bind (compFn Tryz.prog G a125) = some i125 := by kernel_rfl
theorem t129 : (Tryz.prog.funcs[129]?).bind (compFn Tryz.prog G a129) = some i129 := by kernel_rfl
theorem t135 : (Tryz.prog.funcs[135]?).bind (compFn Tryz.prog G a135) = some i135 := by kernel_rfl
theorem t140 : (Tryz.prog.funcs[140]?).bind (compFn Tryz.prog G a140) = some i140 := by kernel_rfl
theorem t152 : (Tryz.prog.funcs[152]?).bind (compFn Tryz.prog G a152) = some i152 := by kernel_rfl
theorem t163 : (Tryz.prog.funcs[163]?).bind (compFn Tryz.prog G a163) = some i163 := by kernel_rfl
theorem t171 : (Tryz.prog.funcs[171]?).bind (compFn Tryz.prog G a171) = some i171 := by kernel_rfl
end Go.AM.J
