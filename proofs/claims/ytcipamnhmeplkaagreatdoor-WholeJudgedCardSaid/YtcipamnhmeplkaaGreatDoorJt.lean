/- Own work. This text shows: the table of these functions. -/
import Derived.Test.YtcipamnhmeplkaaGreatDoorJa
import Derived.Test.YtcipamnhmeplkaaGreatDoorJb
import Derived.KernelRfl
set_option linter.unusedVariables false
set_option maxRecDepth 10000
namespace Go.AM.J
open Go Go.AM
def tabL : List (Nat × Ann × IRFn) := [(3, a3, i3),
 (4, a4, i4),
 (5, a5, i5),
 (6, a6, i6),
 (7, a7, i7),
 (8, a8, i8),
 (9, a9, i9),
 (10, a10, i10),
 (11, a11, i11),
 (12, a12, i12),
 (13, a13, i13),
 (14, a14, i14),
 (15, a15, i15),
 (16, a16, i16),
 (17, a17, i17),
 (18, a18, i18),
 (19, a19, i19),
 (20, a20, i20),
 (21, a21, i21),
 (22, a22, i22),
 (23, a23, i23),
 (24, a24, i24),
 (25, a25, i25),
 (26, a26, i26),
 (27, a27, i27),
 (28, a28, i28),
 (29, a29, i29),
 (30, a30, i30),
 (31, a31, i31),
 (32, a32, i32),
 (33, a33, i33),
 (34, a34, i34),
 (35, a35, i35),
 (36, a36, i36),
 (37, a37, i37),
 (38, a38, i38),
 (39, a39, i39),
 (40, a40, i40),
 (41, a41, i41),
 (42, a42, i42),
 (43, a43, i43),
 (44, a44, i44),
 (45, a45, i45),
 (46, a46, i46),
 (47, a47, i47),
 (48, a48, i48),
 (49, a49, i49),
 (50, a50, i50),
 (51, a51, i51),
 (52, a52, i52),
 (53, a53, i53),
 (54, a54, i54),
 (55, a55, i55),
 (56, a56, i56),
 (57, a57, i57),
 (58, a58, i58),
 (59, a59, i59),
 (60, a60, i60),
 (61, a61, i61),
 (62, a62, i62),
 (64, a64, i64),
 (65, a65, i65),
 (66, a66, i66),
 (67, a67, i67),
 (68, a68, i68),
 (69, a69, i69),
 (70, a70, i70),
 (71, a71, i71),
 (72, a72, i72),
 (73, a73, i73),
 (74, a74, i74),
 (75, a75, i75),
 (76, a76, i76),
 (78, a78, i78),
 (79, a79, i79),
 (80, a80, i80),
 (81, a81, i81),
 (84, a84, i84),
 (85, a85, i85),
 (86, a86, i86),
 (87, a87, i87),
 (88, a88, i88),
 (89, a89, i89),
 (90, a90, i90),
 (91, a91, i91),
 (92, a92, i92),
 (93, a93, i93),
 (94, a94, i94),
 (95, a95, i95),
 (96, a96, i96),
 (97, a97, i97),
 (98, a98, i98),
 (101, a101, i101),
 (102, a102, i102),
 (103, a103, i103),
 (104, a104, i104),
 (105, a105, i105),
 (107, a107, i107),
 (108, a108, i108),
 (109, a109, i109),
 (110, a110, i110),
 (111, a111, i111),
 (112, a112, i112),
 (113, a113, i113),
 (118, a118, i118),
 (119, a119, i119),
 (121, a121, i121),
 (122, a122, i122),
 (123, a123, i123),
 (124, a124, i124),
 (125, a125, i125),
 (126, a126, i126),
 (127, a127, i127),
 (128, a128, i128),
 (129, a129, i129),
 (132, a132, i132),
 (133, a133, i133),
 (134, a134, i134),
 (135, a135, i135),
 (136, a136, i136),
 (137, a137, i137),
 (138, a138, i138),
 (140, a140, i140),
 (142, a142, i142),
 (143, a143, i143),
 (146, a146, i146),
 (152, a152, i152),
 (153, a153, i153),
 (156, a156, i156),
 (157, a157, i157),
 (163, a163, i163),
 (164, a164, i164),
 (165, a165, i165),
 (168, a168, i168),
 (171, a171, i171),
 (172, a172, i172)]
def putAll : List (Nat × Ann × IRFn) → Tr IRFn
  | [] => .lf
  | x :: l => (putAll l).put x.1 x.2.2
theorem putAll_mem : ∀ {l : List (Nat × Ann × IRFn)} {f : Nat} {r : IRFn}, (putAll l).get f = some r → ∃ x ∈ l, x.1 = f ∧ x.2.2 = r
  | [], f, r, h => by rw [putAll, Tr.get_lf] at h; cases h
  | y :: l, f, r, h => by
    rw [putAll, Tr.get_put] at h
    split at h <;> rename_i hy
    · cases h; exact ⟨y, List.mem_cons_self, hy, rfl⟩
    · obtain ⟨x, h1, h2⟩ := putAll_mem h
      exact ⟨x, List.mem_cons_of_mem _ h1, h2⟩
def fnsT : Tr IRFn := putAll tabL
def fns (f : Nat) : Option IRFn := fnsT.get f
def G : GTab := fun g => if g = 0 then some ((List.range 9).map fun (i : Nat) => .int .u64 ((8 * i : Nat) : Int)) else none
end Go.AM.J

set_option maxRecDepth 10000
namespace Go.AM.J
open Go Go.AM
def fnsT2 : Tr IRFn := (.nd (.nd (.nd (.nd (.nd (.nd (.nd (.nd .lf none (.nd .lf (some i128) .lf)) none (.nd .lf (some i64) .lf)) none (.nd .lf (some i32) (.nd .lf (some i96) .lf))) none (.nd (.nd .lf none (.nd .lf (some i80) .lf)) (some i16) (.nd .lf (some i48) (.nd .lf (some i112) .lf)))) none (.nd (.nd (.nd (.nd .lf none (.nd .lf (some i136) .lf)) none (.nd .lf (some i72) .lf)) none (.nd (.nd .lf none (.nd .lf (some i168) .lf)) (some i40) (.nd .lf (some i104) .lf))) (some i8) (.nd (.nd (.nd .lf none (.nd .lf (some i152) .lf)) none (.nd .lf (some i88) .lf)) (some i24) (.nd .lf (some i56) .lf)))) none (.nd (.nd (.nd (.nd (.nd .lf none (.nd .lf (some i132) .lf)) none (.nd .lf (some i68) .lf)) none (.nd (.nd .lf none (.nd .lf (some i164) .lf)) (some i36) .lf)) none (.nd (.nd .lf none (.nd .lf (some i84) .lf)) (some i20) (.nd .lf (some i52) .lf))) (some i4) (.nd (.nd (.nd (.nd .lf none (.nd .lf (some i140) .lf)) none (.nd .lf (some i76) .lf)) none (.nd (.nd .lf none (.nd .lf (some i172) .lf)) (some i44) (.nd .lf (some i108) .lf))) (some i12) (.nd (.nd (.nd .lf none (.nd .lf (some i156) .lf)) none (.nd .lf (some i92) .lf)) (some i28) (.nd .lf (some i60) (.nd .lf (some i124) .lf)))))) none (.nd (.nd (.nd (.nd (.nd .lf none (.nd .lf (some i66) .lf)) none (.nd .lf (some i34) (.nd .lf (some i98) .lf))) none (.nd (.nd (.nd .lf none (.nd .lf (some i146) .lf)) none .lf) (some i18) (.nd .lf (some i50) .lf))) none (.nd (.nd (.nd (.nd .lf none (.nd .lf (some i138) .lf)) none (.nd .lf (some i74) .lf)) none (.nd .lf (some i42) .lf)) (some i10) (.nd (.nd .lf none (.nd .lf (some i90) .lf)) (some i26) (.nd .lf (some i58) (.nd .lf (some i122) .lf))))) none (.nd (.nd (.nd (.nd (.nd .lf none (.nd .lf (some i134) .lf)) none (.nd .lf (some i70) .lf)) none (.nd .lf (some i38) (.nd .lf (some i102) .lf))) none (.nd (.nd .lf none (.nd .lf (some i86) .lf)) (some i22) (.nd .lf (some i54) (.nd .lf (some i118) .lf)))) (some i6) (.nd (.nd (.nd (.nd .lf none (.nd .lf (some i142) .lf)) none (.nd .lf (some i78) .lf)) none (.nd .lf (some i46) (.nd .lf (some i110) .lf))) (some i14) (.nd (.nd .lf none (.nd .lf (some i94) .lf)) (some i30) (.nd .lf (some i62) (.nd .lf (some i126) .lf))))))) none (.nd (.nd (.nd (.nd (.nd (.nd (.nd .lf none (.nd .lf (some i129) .lf)) none (.nd .lf (some i65) .lf)) none (.nd .lf (some i33) (.nd .lf (some i97) .lf))) none (.nd (.nd .lf none (.nd .lf (some i81) .lf)) (some i17) (.nd .lf (some i49) (.nd .lf (some i113) .lf)))) none (.nd (.nd (.nd (.nd .lf none (.nd .lf (some i137) .lf)) none (.nd .lf (some i73) .lf)) none (.nd .lf (some i41) (.nd .lf (some i105) .lf))) (some i9) (.nd (.nd (.nd .lf none (.nd .lf (some i153) .lf)) none (.nd .lf (some i89) .lf)) (some i25) (.nd .lf (some i57) (.nd .lf (some i121) .lf))))) none (.nd (.nd (.nd (.nd (.nd .lf none (.nd .lf (some i133) .lf)) none (.nd .lf (some i69) .lf)) none (.nd (.nd .lf none (.nd .lf (some i165) .lf)) (some i37) (.nd .lf (some i101) .lf))) none (.nd (.nd .lf none (.nd .lf (some i85) .lf)) (some i21) (.nd .lf (some i53) .lf))) (some i5) (.nd (.nd .lf none (.nd .lf (some i45) (.nd .lf (some i109) .lf))) (some i13) (.nd (.nd (.nd .lf none (.nd .lf (some i157) .lf)) none (.nd .lf (some i93) .lf)) (some i29) (.nd .lf (some i61) (.nd .lf (some i125) .lf)))))) none (.nd (.nd (.nd (.nd (.nd .lf none (.nd .lf (some i67) .lf)) none (.nd (.nd .lf none (.nd .lf (some i163) .lf)) (some i35) .lf)) none (.nd .lf (some i19) (.nd .lf (some i51) .lf))) none (.nd (.nd (.nd .lf none (.nd .lf (some i75) .lf)) none (.nd (.nd .lf none (.nd .lf (some i171) .lf)) (some i43) (.nd .lf (some i107) .lf))) (some i11) (.nd (.nd .lf none (.nd .lf (some i91) .lf)) (some i27) (.nd .lf (some i59) (.nd .lf (some i123) .lf))))) (some i3) (.nd (.nd (.nd (.nd (.nd .lf none (.nd .lf (some i135) .lf)) none (.nd .lf (some i71) .lf)) none (.nd .lf (some i39) (.nd .lf (some i103) .lf))) none (.nd (.nd .lf none (.nd .lf (some i87) .lf)) (some i23) (.nd .lf (some i55) (.nd .lf (some i119) .lf)))) (some i7) (.nd (.nd (.nd (.nd .lf none (.nd .lf (some i143) .lf)) none (.nd .lf (some i79) .lf)) none (.nd .lf (some i47) (.nd .lf (some i111) .lf))) (some i15) (.nd (.nd .lf none (.nd .lf (some i95) .lf)) (some i31) (.nd .lf none (.nd .lf (some i127) .lf))))))))
theorem fnsT2_eq : fnsT2 = fnsT := by kernel_rfl
def fns2 (f : Nat) : Option IRFn := fnsT2.get f
theorem fns2_eq : fns2 = fns := by funext f; unfold fns2 fns; rw [fnsT2_eq]
end Go.AM.J
