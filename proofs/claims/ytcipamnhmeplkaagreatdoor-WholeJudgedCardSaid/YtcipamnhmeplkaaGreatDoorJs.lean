/- Own work. This text shows: what the table says, calls of the program do. -/
import Derived.Test.YtcipamnhmeplkaaGreatDoorAm7
import Derived.Test.YtcipamnhmeplkaaGreatDoorJe0
import Derived.Test.YtcipamnhmeplkaaGreatDoorJe1
import Derived.Test.YtcipamnhmeplkaaGreatDoorJe2
import Derived.Test.YtcipamnhmeplkaaGreatDoorJe3
import Derived.KernelRfl
set_option linter.unusedVariables false
namespace Go.AM.J
open Go Go.AM Go.Proofs
theorem follows : Tryz.prog.follows .mixedOrders = true := by kernel_rfl
theorem tabOk : ∀ x ∈ tabL, (Tryz.prog.funcs[x.1]?).bind (compFn Tryz.prog G x.2.1) = some x.2.2 := by
  refine List.forall_mem_cons.2 ⟨t3, List.forall_mem_cons.2 ⟨t4, List.forall_mem_cons.2 ⟨t5, List.forall_mem_cons.2 ⟨t6, List.forall_mem_cons.2 ⟨t7, List.forall_mem_cons.2 ⟨t8, List.forall_mem_cons.2 ⟨t9, List.forall_mem_cons.2 ⟨t10, List.forall_mem_cons.2 ⟨t11, List.forall_mem_cons.2 ⟨t12, List.forall_mem_cons.2 ⟨t13, List.forall_mem_cons.2 ⟨t14, List.forall_mem_cons.2 ⟨t15, List.forall_mem_cons.2 ⟨t16, List.forall_mem_cons.2 ⟨t17, List.forall_mem_cons.2 ⟨t18, List.forall_mem_cons.2 ⟨t19, List.forall_mem_cons.2 ⟨t20, List.forall_mem_cons.2 ⟨t21, List.forall_mem_cons.2 ⟨t22, List.forall_mem_cons.2 ⟨t23, List.forall_mem_cons.2 ⟨t24, List.forall_mem_cons.2 ⟨t25, List.forall_mem_cons.2 ⟨t26, List.forall_mem_cons.2 ⟨t27, List.forall_mem_cons.2 ⟨t28, List.forall_mem_cons.2 ⟨t29, List.forall_mem_cons.2 ⟨t30, List.forall_mem_cons.2 ⟨t31, List.forall_mem_cons.2 ⟨t32, List.forall_mem_cons.2 ⟨t33, List.forall_mem_cons.2 ⟨t34, List.forall_mem_cons.2 ⟨t35, List.forall_mem_cons.2 ⟨t36, List.forall_mem_cons.2 ⟨t37, List.forall_mem_cons.2 ⟨t38, List.forall_mem_cons.2 ⟨t39, List.forall_mem_cons.2 ⟨t40, List.forall_mem_cons.2 ⟨t41, List.forall_mem_cons.2 ⟨t42, List.forall_mem_cons.2 ⟨t43, List.forall_mem_cons.2 ⟨t44, List.forall_mem_cons.2 ⟨t45, List.forall_mem_cons.2 ⟨t46, List.forall_mem_cons.2 ⟨t47, List.forall_mem_cons.2 ⟨t48, List.forall_mem_cons.2 ⟨t49, List.forall_mem_cons.2 ⟨t50, List.forall_mem_cons.2 ⟨t51, List.forall_mem_cons.2 ⟨t52, List.forall_mem_cons.2 ⟨t53, List.forall_mem_cons.2 ⟨t54, List.forall_mem_cons.2 ⟨t55, List.forall_mem_cons.2 ⟨t56, List.forall_mem_cons.2 ⟨t57, List.forall_mem_cons.2 ⟨t58, List.forall_mem_cons.2 ⟨t59, List.forall_mem_cons.2 ⟨t60, List.forall_mem_cons.2 ⟨t61, List.forall_mem_cons.2 ⟨t62, List.forall_mem_cons.2 ⟨t64, List.forall_mem_cons.2 ⟨t65, List.forall_mem_cons.2 ⟨t66, List.forall_mem_cons.2 ⟨t67, List.forall_mem_cons.2 ⟨t68, List.forall_mem_cons.2 ⟨t69, List.forall_mem_cons.2 ⟨t70, List.forall_mem_cons.2 ⟨t71, List.forall_mem_cons.2 ⟨t72, List.forall_mem_cons.2 ⟨t73, List.forall_mem_cons.2 ⟨t74, List.forall_mem_cons.2 ⟨t75, List.forall_mem_cons.2 ⟨t76, List.forall_mem_cons.2 ⟨t78, List.forall_mem_cons.2 ⟨t79, List.forall_mem_cons.2 ⟨t80, List.forall_mem_cons.2 ⟨t81, List.forall_mem_cons.2 ⟨t84, List.forall_mem_cons.2 ⟨t85, List.forall_mem_cons.2 ⟨t86, List.forall_mem_cons.2 ⟨t87, List.forall_mem_cons.2 ⟨t88, List.forall_mem_cons.2 ⟨t89, List.forall_mem_cons.2 ⟨t90, List.forall_mem_cons.2 ⟨t91, List.forall_mem_cons.2 ⟨t92, List.forall_mem_cons.2 ⟨t93, List.forall_mem_cons.2 ⟨t94, List.forall_mem_cons.2 ⟨t95, List.forall_mem_cons.2 ⟨t96, List.forall_mem_cons.2 ⟨t97, List.forall_mem_cons.2 ⟨t98, List.forall_mem_cons.2 ⟨t101, List.forall_mem_cons.2 ⟨t102, List.forall_mem_cons.2 ⟨t103, List.forall_mem_cons.2 ⟨t104, List.forall_mem_cons.2 ⟨t105, List.forall_mem_cons.2 ⟨t107, List.forall_mem_cons.2 ⟨t108, List.forall_mem_cons.2 ⟨t109, List.forall_mem_cons.2 ⟨t110, List.forall_mem_cons.2 ⟨t111, List.forall_mem_cons.2 ⟨t112, List.forall_mem_cons.2 ⟨t113, List.forall_mem_cons.2 ⟨t118, List.forall_mem_cons.2 ⟨t119, List.forall_mem_cons.2 ⟨t121, List.forall_mem_cons.2 ⟨t122, List.forall_mem_cons.2 ⟨t123, List.forall_mem_cons.2 ⟨t124, List.forall_mem_cons.2 ⟨t125, List.forall_mem_cons.2 ⟨t126, List.forall_mem_cons.2 ⟨t127, List.forall_mem_cons.2 ⟨t128, List.forall_mem_cons.2 ⟨t129, List.forall_mem_cons.2 ⟨t132, List.forall_mem_cons.2 ⟨t133, List.forall_mem_cons.2 ⟨t134, List.forall_mem_cons.2 ⟨t135, List.forall_mem_cons.2 ⟨t136, List.forall_mem_cons.2 ⟨t137, List.forall_mem_cons.2 ⟨t138, List.forall_mem_cons.2 ⟨t140, List.forall_mem_cons.2 ⟨t142, List.forall_mem_cons.2 ⟨t143, List.forall_mem_cons.2 ⟨t146, List.forall_mem_cons.2 ⟨t152, List.forall_mem_cons.2 ⟨t153, List.forall_mem_cons.2 ⟨t156, List.forall_mem_cons.2 ⟨t157, List.forall_mem_cons.2 ⟨t163, List.forall_mem_cons.2 ⟨t164, List.forall_mem_cons.2 ⟨t165, List.forall_mem_cons.2 ⟨t168, List.forall_mem_cons.2 ⟨t171, List.forall_mem_cons.2 ⟨t172, fun x h => nomatch h⟩⟩⟩⟩⟩⟩⟩⟩⟩⟩⟩⟩⟩⟩⟩⟩⟩⟩⟩⟩⟩⟩⟩⟩⟩⟩⟩⟩⟩⟩⟩⟩⟩⟩⟩⟩⟩⟩⟩⟩⟩⟩⟩⟩⟩⟩⟩⟩⟩⟩⟩⟩⟩⟩⟩⟩⟩⟩⟩⟩⟩⟩⟩⟩⟩⟩⟩⟩⟩⟩⟩⟩⟩⟩⟩⟩⟩⟩⟩⟩⟩⟩⟩⟩⟩⟩⟩⟩⟩⟩⟩⟩⟩⟩⟩⟩⟩⟩⟩⟩⟩⟩⟩⟩⟩⟩⟩⟩⟩⟩⟩⟩⟩⟩⟩⟩⟩⟩⟩⟩⟩⟩⟩⟩⟩⟩⟩⟩⟩⟩⟩⟩⟩⟩⟩⟩
abbrev C : CallT := ACall Tryz.prog G
theorem sysJ : Sys fns C := sys follows fun f irf hf => by
  obtain ⟨x, h1, h2, h3⟩ := putAll_mem hf
  have := tabOk x h1
  rw [h2, h3] at this
  cases hq : Tryz.prog.funcs[f]? with
  | none => rw [hq] at this; cases this
  | some fn => rw [hq] at this; exact ⟨x.2.1, fn, rfl, this⟩
theorem fn3 : fns 3 = some i3 := by kernel_rfl
theorem fn4 : fns 4 = some i4 := by kernel_rfl
theorem fn5 : fns 5 = some i5 := by kernel_rfl
theorem fn6 : fns 6 = some i6 := by kernel_rfl
theorem fn7 : fns 7 = some i7 := by kernel_rfl
theorem fn8 : fns 8 = some i8 := by kernel_rfl
theorem fn9 : fns 9 = some i9 := by kernel_rfl
theorem fn10 : fns 10 = some i10 := by kernel_rfl
theorem fn11 : fns 11 = some i11 := by kernel_rfl
theorem fn12 : fns 12 = some i12 := by kernel_rfl
theorem fn13 : fns 13 = some i13 := by kernel_rfl
theorem fn14 : fns 14 = some i14 := by kernel_rfl
theorem fn15 : fns 15 = some i15 := by kernel_rfl
theorem fn16 : fns 16 = some i16 := by kernel_rfl
theorem fn17 : fns 17 = some i17 := by kernel_rfl
theorem fn18 : fns 18 = some i18 := by kernel_rfl
theorem fn19 : fns 19 = some i19 := by kernel_rfl
theorem fn20 : fns 20 = some i20 := by kernel_rfl
theorem fn21 : fns 21 = some i21 := by kernel_rfl
theorem fn22 : fns 22 = some i22 := by kernel_rfl
theorem fn23 : fns 23 = some i23 := by kernel_rfl
theorem fn24 : fns 24 = some i24 := by kernel_rfl
theorem fn25 : fns 25 = some i25 := by kernel_rfl
theorem fn26 : fns 26 = some i26 := by kernel_rfl
theorem fn27 : fns 27 = some i27 := by kernel_rfl
theorem fn28 : fns 28 = some i28 := by kernel_rfl
theorem fn29 : fns 29 = some i29 := by kernel_rfl
theorem fn30 : fns 30 = some i30 := by kernel_rfl
theorem fn31 : fns 31 = some i31 := by kernel_rfl
theorem fn32 : fns 32 = some i32 := by kernel_rfl
theorem fn33 : fns 33 = some i33 := by kernel_rfl
theorem fn34 : fns 34 = some i34 := by kernel_rfl
theorem fn35 : fns 35 = some i35 := by kernel_rfl
theorem fn36 : fns 36 = some i36 := by kernel_rfl
theorem fn37 : fns 37 = some i37 := by kernel_rfl
theorem fn38 : fns 38 = some i38 := by kernel_rfl
theorem fn39 : fns 39 = some i39 := by kernel_rfl
theorem fn40 : fns 40 = some i40 := by kernel_rfl
theorem fn41 : fns 41 = some i41 := by kernel_rfl
theorem fn42 : fns 42 = some i42 := by kernel_rfl
theorem fn43 : fns 43 = some i43 := by kernel_rfl
theorem fn44 : fns 44 = some i44 := by kernel_rfl
theorem fn45 : fns 45 = some i45 := by kernel_rfl
theorem fn46 : fns 46 = some i46 := by kernel_rfl
theorem fn47 : fns 47 = some i47 := by kernel_rfl
theorem fn48 : fns 48 = some i48 := by kernel_rfl
theorem fn49 : fns 49 = some i49 := by kernel_rfl
theorem fn50 : fns 50 = some i50 := by kernel_rfl
theorem fn51 : fns 51 = some i51 := by kernel_rfl
theorem fn52 : fns 52 = some i52 := by kernel_rfl
theorem fn53 : fns 53 = some i53 := by kernel_rfl
theorem fn54 : fns 54 = some i54 := by kernel_rfl
theorem fn55 : fns 55 = some i55 := by kernel_rfl
theorem fn56 : fns 56 = some i56 := by kernel_rfl
theorem fn57 : fns 57 = some i57 := by kernel_rfl
theorem fn58 : fns 58 = some i58 := by kernel_rfl
theorem fn59 : fns 59 = some i59 := by kernel_rfl
theorem fn60 : fns 60 = some i60 := by kernel_rfl
theorem fn61 : fns 61 = some i61 := by kernel_rfl
theorem fn62 : fns 62 = some i62 := by kernel_rfl
theorem fn64 : fns 64 = some i64 := by kernel_rfl
theorem fn65 : fns 65 = some i65 := by kernel_rfl
theorem fn66 : fns 66 = some i66 := by kernel_rfl
theorem fn67 : fns 67 = some i67 := by kernel_rfl
theorem fn68 : fns 68 = some i68 := by kernel_rfl
theorem fn69 : fns 69 = some i69 := by kernel_rfl
theorem fn70 : fns 70 = some i70 := by kernel_rfl
theorem fn71 : fns 71 = some i71 := by kernel_rfl
theorem fn72 : fns 72 = some i72 := by kernel_rfl
theorem fn73 : fns 73 = some i73 := by kernel_rfl
theorem fn74 : fns 74 = some i74 := by kernel_rfl
theorem fn75 : fns 75 = some i75 := by kernel_rfl
theorem fn76 : fns 76 = some i76 := by kernel_rfl
theorem fn78 : fns 78 = some i78 := by kernel_rfl
theorem fn79 : fns 79 = some i79 := by kernel_rfl
theorem fn80 : fns 80 = some i80 := by kernel_rfl
theorem fn81 : fns 81 = some i81 := by kernel_rfl
theorem fn84 : fns 84 = some i84 := by kernel_rfl
theorem fn85 : fns 85 = some i85 := by kernel_rfl
theorem fn86 : fns 86 = some i86 := by kernel_rfl
theorem fn87 : fns 87 = some i87 := by kernel_rfl
theorem fn88 : fns 88 = some i88 := by kernel_rfl
theorem fn89 : fns 89 = some i89 := by kernel_rfl
theorem fn90 : fns 90 = some i90 := by kernel_rfl
theorem fn91 : fns 91 = some i91 := by kernel_rfl
theorem fn92 : fns 92 = some i92 := by kernel_rfl
theorem fn93 : fns 93 = some i93 := by kernel_rfl
theorem fn94 : fns 94 = some i94 := by kernel_rfl
theorem fn95 : fns 95 = some i95 := by kernel_rfl
theorem fn96 : fns 96 = some i96 := by kernel_rfl
theorem fn97 : fns 97 = some i97 := by kernel_rfl
theorem fn98 : fns 98 = some i98 := by kernel_rfl
theorem fn101 : fns 101 = some i101 := by kernel_rfl
theorem fn102 : fns 102 = some i102 := by kernel_rfl
theorem fn103 : fns 103 = some i103 := by kernel_rfl
theorem fn104 : fns 104 = some i104 := by kernel_rfl
theorem fn105 : fns 105 = some i105 := by kernel_rfl
theorem fn107 : fns 107 = some i107 := by kernel_rfl
theorem fn108 : fns 108 = some i108 := by kernel_rfl
theorem fn109 : fns 109 = some i109 := by kernel_rfl
theorem fn110 : fns 110 = some i110 := by kernel_rfl
theorem fn111 : fns 111 = some i111 := by kernel_rfl
theorem fn112 : fns 112 = some i112 := by kernel_rfl
theorem fn113 : fns 113 = some i113 := by kernel_rfl
theorem fn118 : fns 118 = some i118 := by kernel_rfl
theorem fn119 : fns 119 = some i119 := by kernel_rfl
theorem fn121 : fns 121 = some i121 := by kernel_rfl
theorem fn122 : fns 122 = some i122 := by kernel_rfl
theorem fn123 : fns 123 = some i123 := by kernel_rfl
theorem fn124 : fns 124 = some i124 := by kernel_rfl
theorem fn125 : fns 125 = some i125 := by kernel_rfl
theorem fn126 : fns 126 = some i126 := by kernel_rfl
theorem fn127 : fns 127 = some i127 := by kernel_rfl
theorem fn128 : fns 128 = some i128 := by kernel_rfl
theorem fn129 : fns 129 = some i129 := by kernel_rfl
theorem fn132 : fns 132 = some i132 := by kernel_rfl
theorem fn133 : fns 133 = some i133 := by kernel_rfl
theorem fn134 : fns 134 = some i134 := by kernel_rfl
theorem fn135 : fns 135 = some i135 := by kernel_rfl
theorem fn136 : fns 136 = some i136 := by kernel_rfl
theorem fn137 : fns 137 = some i137 := by kernel_rfl
theorem fn138 : fns 138 = some i138 := by kernel_rfl
theorem fn140 : fns 140 = some i140 := by kernel_rfl
theorem fn142 : fns 142 = some i142 := by kernel_rfl
theorem fn143 : fns 143 = some i143 := by kernel_rfl
theorem fn146 : fns 146 = some i146 := by kernel_rfl
theorem fn152 : fns 152 = some i152 := by kernel_rfl
theorem fn153 : fns 153 = some i153 := by kernel_rfl
theorem fn156 : fns 156 = some i156 := by kernel_rfl
theorem fn157 : fns 157 = some i157 := by kernel_rfl
theorem fn163 : fns 163 = some i163 := by kernel_rfl
theorem fn164 : fns 164 = some i164 := by kernel_rfl
theorem fn165 : fns 165 = some i165 := by kernel_rfl
theorem fn168 : fns 168 = some i168 := by kernel_rfl
theorem fn171 : fns 171 = some i171 := by kernel_rfl
theorem fn172 : fns 172 = some i172 := by kernel_rfl
end Go.AM.J
