/- Own work. This text shows: functions of the program, as the machine has them, first half. -/
import Derived.Test.YtcipamnhmeplkaaGreatDoorAm1
set_option linter.unusedVariables false
set_option maxRecDepth 10000
namespace Go.AM.J
open Go Go.AM
/-- lapstone/lapstonetop.WholeJudged -/
def i3 : IRFn :=
 ⟨.seq (.items [.op (some 2) none (.mov (.c (.bool false)))] [])
 (.seq (.items [.call (some 15) none (.fn 4) [(.c (.int .u64 0))],
 .op (some 3) none (.mov (.t 15))] [])
 (.seq (.items [.op (some 16) none .mkmap,
 .op (some 17) none .mkmap,
 .op (some 18) none (.build [.nils, .nilm, .nilm] [(1, 1, (.t 16)), (2, 1, (.t 17))]),
 .op (some 19) none (.hbox (.t 18)),
 .op (some 4) none (.mov (.t 19))] [])
 (.seq (.items [.op (some 20) none (.mov (.t 0)),
 .op (some 21) none (.build [.nils, (.int .i64 0)] [(0, 1, (.t 20))]),
 .op (some 22) none (.hbox (.t 21)),
 .op (some 5) none (.mov (.t 22))] [])
 (.seq (.seq (.items [.call (some 23) none (.fn 5) [],
 .op (some 24) none (.un .not (.t 23)),
 .op (some 25) none (.mov (.t 24)),
 .op (some 26) (some (25, false)) (.mov (.t 3)),
 .op (some 27) (some (25, false)) (.eqN false (.t 26) .nilp),
 .op (some 28) none (.pick (.t 25) (.c (.bool true)) (.t 27))] [])
 (.cond (.t 28)
 (.seq (.items [.op (some 2) none (.mov (.c (.bool false)))] [])
 (.ret))
 (.skip)))
 (.seq (.items [.call (some 29) none (.fn 6) [],
 .op (some 6) none (.mov (.t 29))] [])
 (.seq (.seq (.items [.op (some 7) none (.mov (.c (.int .i64 0)))] [])
 (.block 0
 (.loop
 (.seq (.seq (.items [.op (some 30) none (.mov (.t 7)),
 .op (some 31) none (.bin .lss (.t 30) (.c (.int .i64 30))),
 .op (some 32) none (.mov (.t 31)),
 .op (some 33) (some (32, true)) (.mov (.t 5)),
 .call (some 34) (some (32, true)) (.fn 7) [(.t 33)],
 .op (some 35) none (.pick (.t 32) (.t 34) (.c (.bool false)))] [])
 (.cond (.t 35)
 (.skip)
 (.exit 0)))
 (.seq (.block 1
 (.seq (.seq (.items [] [8, 9])
 (.items [.op (some 39) none (.mov (.t 4)),
 .op (some 40) none (.mov (.t 5)),
 .call (some 41) none (.fn 8) [(.t 39), (.t 40)],
 .op (some 38) none (.mov (.t 41)),
 .op (some 42) none (.extract (.t 38) 0),
 .op (some 43) none (.extract (.t 38) 1),
 .op (some 8) none (.lalloc (.agg [(.int .u64 0), (.int .u64 0), (.int .u64 0), .nils])),
 .op (some 9) none (.lalloc (.agg [(.int .u64 0), (.int .i64 0)])),
 .op none none (.store 4 (.l 8) (.t 42)),
 .op none none (.store 2 (.l 9) (.t 43))] []))
 (.seq (.seq (.items [.op (some 44) none (.mov (.t 3)),
 .op (some 45) none (.load (some 4) (.l 8)),
 .op (some 47) none (.load (some 2) (.l 9)),
 .call (some 46) none (.fn 9) [(.t 44), (.t 45)],
 .chk 47 none (.load (some 2) (.l 9)),
 .op (some 48) none (.eqA true [0, 0] (.t 46) (.t 47)),
 .op (some 49) none (.mov (.t 48)),
 .op (some 50) (some (49, false)) (.mov (.t 3)),
 .op (some 53) (some (49, false)) (.mov (.t 4)),
 .op (some 54) (some (49, false)) (.nilchk (.t 53)),
 .op (some 55) (some (49, false)) (.faddr 0 (.t 54)),
 .call (some 51) (some (49, false)) (.fn 10) [(.t 50)],
 .op (some 52) (some (49, false)) (.cvI .i64 (.t 51)),
 .call (some 56) (some (49, false)) (.fn 11) [(.t 55)],
 .op (some 57) (some (49, false)) (.bin .neq (.t 52) (.t 56)),
 .op (some 58) none (.pick (.t 49) (.c (.bool true)) (.t 57))] [])
 (.cond (.t 58)
 (.seq (.items [.op (some 2) none (.mov (.c (.bool false)))] [])
 (.ret))
 (.skip)))
 (.seq (.items [.op (some 59) none (.mov (.t 6)),
 .op (some 60) none (.mov (.t 5)),
 .call (some 61) none (.fn 12) [(.t 60), (.c (.int .i64 13))],
 .op (some 62) none (.iaddr 1 (.t 59) (.t 61)),
 .op (some 63) none (.load none (.t 62)),
 .op (some 10) none (.mov (.t 63))] [])
 (.seq (.items [.op (some 11) none (.mov (.c (.int .i64 0)))] [])
 (.seq (.seq (.items [.op (some 12) none (.mov (.c (.int .i64 0)))] [])
 (.block 2
 (.loop
 (.seq (.seq (.items [.op (some 64) none (.mov (.t 12)),
 .op (some 65) none (.mov (.t 4)),
 .op (some 66) none (.nilchk (.t 65)),
 .op (some 67) none (.faddr 0 (.t 66)),
 .call (some 68) none (.fn 11) [(.t 67)],
 .op (some 69) none (.bin .lss (.t 64) (.t 68))] [])
 (.cond (.t 69)
 (.skip)
 (.exit 2)))
 (.seq (.block 3
 (.seq (.seq (.items [] [13])
 (.items [.op (some 73) none (.mov (.t 4)),
 .op (some 74) none (.nilchk (.t 73)),
 .op (some 75) none (.faddr 0 (.t 74)),
 .op (some 76) none (.faddr 0 (.t 75)),
 .op (some 77) none (.load none (.t 76)),
 .op (some 78) none (.mov (.t 12)),
 .op (some 79) none (.iaddr 1 (.t 77) (.t 78)),
 .op (some 80) none (.load none (.t 79)),
 .op (some 81) none (.mov (.t 10)),
 .call (some 82) none (.fn 13) [(.t 80), (.t 81)],
 .op (some 72) none (.mov (.t 82)),
 .op (some 83) none (.extract (.t 72) 0),
 .op (some 84) none (.extract (.t 72) 1),
 .op (some 13) none (.lalloc (.agg [(.str []), (.str []), (.bool false)])),
 .op none none (.store 3 (.l 13) (.t 83)),
 .op (some 14) none (.mov (.t 84))] []))
 (.seq (.items [.op (some 85) none (.mov (.t 14))] [])
 (.cond (.t 85)
 (.items [.op (some 86) none (.mov (.t 12)),
 .op (some 87) none (.bin .add (.t 86) (.c (.int .i64 1))),
 .op (some 11) none (.mov (.t 87))] [])
 (.skip)))))
 (.items [.op (some 70) none (.mov (.t 12)),
 .op (some 71) none (.bin .add (.t 70) (.c (.int .i64 1))),
 .op (some 12) none (.mov (.t 71))] []))))))
 (.seq (.items [.op (some 88) none (.mov (.t 3)),
 .op (some 89) none (.mov (.t 10)),
 .call (some 90) none (.fn 14) [(.t 88), (.t 89)],
 .op (some 91) none (.cvI .i64 (.t 90)),
 .op (some 92) none (.mov (.t 11)),
 .op (some 93) none (.bin .neq (.t 91) (.t 92))] [])
 (.cond (.t 93)
 (.seq (.items [.op (some 2) none (.mov (.c (.bool false)))] [])
 (.ret))
 (.skip)))))))))
 (.items [.op (some 36) none (.mov (.t 7)),
 .op (some 37) none (.bin .add (.t 36) (.c (.int .i64 1))),
 .op (some 7) none (.mov (.t 37))] []))))))
 (.seq (.items [.op (some 2) none (.mov (.c (.bool true)))] [])
 (.ret)))))))),
 [.tmp 2], 1, false, false⟩
def a3 : Ann := { prom := [8, 9, 13], base := [], hps := [], frz := [], keepArgs := false, keepRes := false, ntmps := 94 }

/-- lapstone/judge.New -/
def i4 : IRFn :=
 ⟨.seq (.items [.op (some 2) none (.mov (.c .nilp))] [])
 (.seq (.items [.op (some 3) none (.mov (.t 0)),
 .op (some 4) none .mkmap,
 .op (some 5) none .mkmap,
 .op (some 6) none (.build [(.int .u64 0), .nilm, .nilm] [(0, 1, (.t 3)), (1, 1, (.t 4)), (2, 1, (.t 5))]),
 .op (some 7) none (.hbox (.t 6)),
 .op (some 2) none (.mov (.t 7))] [])
 (.ret)),
 [.tmp 2], 1, false, false⟩
def a4 : Ann := { prom := [], base := [], hps := [], frz := [], keepArgs := false, keepRes := false, ntmps := 8 }

/-- lapstone/lapstonetop.alive -/
def i5 : IRFn :=
 ⟨.seq (.items [.op (some 0) none (.mov (.c (.bool false)))] [])
 (.seq (.items [.call (some 11) none (.fn 15) [],
 .op (some 10) none (.mov (.t 11)),
 .op (some 12) none (.extract (.t 10) 0),
 .op (some 13) none (.extract (.t 10) 1),
 .op (some 14) none (.extract (.t 10) 2),
 .op (some 1) none (.mov (.t 12)),
 .op (some 2) none (.mov (.t 13)),
 .op (some 3) none (.mov (.t 14))] [])
 (.seq (.seq (.items [.op (some 15) none (.mov (.t 3)),
 .op (some 16) none (.eqN false (.t 15) .nilp),
 .op (some 17) none (.mov (.t 16)),
 .op (some 18) (some (17, false)) (.mov (.t 3)),
 .op (some 19) (some (17, false)) (.build [(.str []), (.str []), (.bool false)] [(0, 1, (.c (.str [97]))), (1, 1, (.c (.str [120])))]),
 .op (some 20) (some (17, false)) (.bslice false (.agg [(.str []), (.str []), (.bool false)]) 1 [(0, (.t 19))]),
 .call (some 21) (some (17, false)) (.fn 16) [(.t 18), (.c (.int .u64 1)), (.t 20)],
 .op (some 22) (some (17, false)) (.bin .neq (.t 21) (.c (.int .i64 0))),
 .op (some 23) none (.pick (.t 17) (.c (.bool true)) (.t 22))] [])
 (.cond (.t 23)
 (.seq (.items [.op (some 0) none (.mov (.c (.bool false)))] [])
 (.ret))
 (.skip)))
 (.seq (.items [.op (some 24) none (.mov (.t 2)),
 .call (some 25) none (.fn 17) [(.t 24)]] [])
 (.seq (.items [.op (some 26) none (.mov (.t 1)),
 .call (some 27) none (.fn 18) [(.t 26), (.c .nils)]] [])
 (.seq (.items [.op (some 29) none (.mov (.t 1)),
 .call (some 30) none (.fn 19) [(.t 29)],
 .op (some 28) none (.mov (.t 30)),
 .op (some 31) none (.extract (.t 28) 0),
 .op (some 32) none (.extract (.t 28) 1),
 .op (some 4) none (.mov (.t 31)),
 .op (some 5) none (.mov (.t 32))] [])
 (.seq (.seq (.items [.op (some 33) none (.mov (.t 5)),
 .op (some 34) none (.bin .neq (.t 33) (.c (.int .i64 0))),
 .op (some 35) none (.mov (.t 34)),
 .op (some 36) (some (35, false)) (.mov (.t 4)),
 .op (some 37) (some (35, false)) (.eqN false (.t 36) .nilp),
 .op (some 38) none (.pick (.t 35) (.c (.bool true)) (.t 37))] [])
 (.cond (.t 38)
 (.seq (.items [.op (some 0) none (.mov (.c (.bool false)))] [])
 (.ret))
 (.skip)))
 (.seq (.items [.op (some 40) none (.mov (.t 4)),
 .call (some 41) none (.fn 20) [(.t 40)],
 .op (some 39) none (.mov (.t 41)),
 .op (some 42) none (.extract (.t 39) 0),
 .op (some 43) none (.extract (.t 39) 1),
 .op (some 6) none (.mov (.t 42)),
 .op (some 7) none (.mov (.t 43))] [])
 (.seq (.seq (.items [.op (some 44) none (.mov (.t 7)),
 .op (some 45) none (.bin .neq (.t 44) (.c (.int .i64 0))),
 .op (some 46) none (.mov (.t 45)),
 .op (some 47) (some (46, false)) (.mov (.t 6)),
 .op (some 48) (some (46, false)) (.eqN false (.t 47) .nilp),
 .op (some 49) none (.pick (.t 46) (.c (.bool true)) (.t 48))] [])
 (.cond (.t 49)
 (.seq (.items [.op (some 0) none (.mov (.c (.bool false)))] [])
 (.ret))
 (.skip)))
 (.seq (.items [.op (some 51) none (.mov (.t 6)),
 .call (some 52) none (.fn 21) [(.t 51), (.c (.str [97])), (.c (.int .u64 1))],
 .op (some 50) none (.mov (.t 52)),
 .op (some 53) none (.extract (.t 50) 0),
 .op (some 54) none (.extract (.t 50) 1),
 .op (some 8) none (.mov (.t 53)),
 .op (some 9) none (.mov (.t 54))] [])
 (.seq (.items [.op (some 55) none (.mov (.t 8)),
 .op (some 56) none (.bin .eql (.t 55) (.c (.str [120]))),
 .op (some 57) none (.mov (.t 56)),
 .op (some 58) (some (57, true)) (.mov (.t 9)),
 .op (some 59) (some (57, true)) (.bin .eql (.t 58) (.c (.int .i64 0))),
 .op (some 60) none (.pick (.t 57) (.t 59) (.c (.bool false))),
 .op (some 0) none (.mov (.t 60))] [])
 (.ret))))))))))),
 [.tmp 0], 0, false, false⟩
def a5 : Ann := { prom := [], base := [], hps := [], frz := [], keepArgs := false, keepRes := false, ntmps := 61 }

/-- lapstone/lapstonetop.wholeKeys -/
def i6 : IRFn :=
 ⟨.seq (.items [.op (some 0) none (.mov (.c .nils))] [])
 (.seq (.items [.op (some 1) none (.bslice false (.str []) 13 [(0, (.c (.str [0]))), (1, (.c (.str [0, 0]))), (2, (.c (.str [0, 1]))), (3, (.c (.str [0, 255]))), (4, (.c (.str [1]))), (5, (.c (.str [97]))), (6, (.c (.str [97, 0]))), (7, (.c (.str [97, 0, 1]))), (8, (.c (.str [97, 98]))), (9, (.c (.str [98]))), (10, (.c (.str [122, 122]))), (11, (.c (.str [255]))), (12, (.c (.str [255, 255])))]),
 .op (some 0) none (.mov (.t 1))] [])
 (.ret)),
 [.tmp 0], 0, false, true⟩
def a6 : Ann := { prom := [], base := [], hps := [], frz := [], keepArgs := false, keepRes := true, ntmps := 2 }

/-- (*lapstone/lapstonetop.wholeDeal).more -/
def i7 : IRFn :=
 ⟨.seq (.items [.op (some 2) none (.mov (.c (.bool false)))] [])
 (.seq (.items [.op (some 3) none (.mov (.t 0)),
 .op (some 4) none (.nilchk (.t 3)),
 .op (some 5) none (.faddr 1 (.t 4)),
 .op (some 6) none (.load none (.t 5)),
 .op (some 7) none (.mov (.t 0)),
 .op (some 8) none (.nilchk (.t 7)),
 .op (some 9) none (.faddr 0 (.t 8)),
 .op (some 10) none (.load none (.t 9)),
 .op (some 11) none (.lenV (.t 10)),
 .op (some 12) none (.bin .lss (.t 6) (.t 11)),
 .op (some 2) none (.mov (.t 12))] [])
 (.ret)),
 [.tmp 2], 1, false, false⟩
def a7 : Ann := { prom := [], base := [], hps := [], frz := [], keepArgs := false, keepRes := false, ntmps := 13 }

/-- (*lapstone/lapstonetop.wholeJudge).asks -/
def i8 : IRFn :=
 ⟨.seq (.seq (.items [] [4, 5])
 (.items [.op (some 4) none (.lalloc (.agg [(.int .u64 0), (.int .u64 0), (.int .u64 0), .nils])),
 .op (some 5) none (.lalloc (.agg [(.int .u64 0), (.int .i64 0)]))] []))
 (.seq (.items [.op (some 11) none (.mov (.t 1)),
 .call (some 12) none (.fn 12) [(.t 11), (.c (.int .i64 3))],
 .op (some 6) none (.mov (.t 12))] [])
 (.seq (.items [.op (some 13) none (.mov (.t 0)),
 .op (some 14) none (.nilchk (.t 13)),
 .op (some 15) none (.faddr 1 (.t 14)),
 .op (some 16) none (.load none (.t 15)),
 .op (some 17) none (.mov (.t 6)),
 .op (some 18) none (.lookup 0 (.int .i64 0) false (.t 16) (.t 17)),
 .op (some 19) none (.bslice false (.int .i64 0) 6 [(0, (.c (.int .i64 1))), (1, (.c (.int .i64 1))), (2, (.c (.int .i64 1))), (3, (.c (.int .i64 0))), (4, (.c (.int .i64 (-1)))), (5, (.c (.int .i64 2)))]),
 .op (some 20) none (.mov (.t 1)),
 .call (some 21) none (.fn 12) [(.t 20), (.c (.int .i64 6))],
 .chk 16 none (.load none (.t 15)),
 .chk 18 none (.lookup 0 (.int .i64 0) false (.t 16) (.t 17)),
 .op (some 22) none (.iaddr 1 (.t 19) (.t 21)),
 .op (some 23) none (.load none (.t 22)),
 .op (some 24) none (.bin .add (.t 18) (.t 23)),
 .op (some 25) none (.minmax true [(.c (.int .i64 0)), (.t 24)]),
 .op (some 7) none (.mov (.t 25))] [])
 (.seq (.items [.op (some 26) none (.mov (.t 0)),
 .op (some 27) none (.nilchk (.t 26)),
 .op (some 28) none (.faddr 0 (.t 27)),
 .call (some 29) none (.fn 11) [(.t 28)],
 .op (some 30) none (.bslice false (.int .i64 0) 6 [(0, (.c (.int .i64 0))), (1, (.c (.int .i64 0))), (2, (.c (.int .i64 (-1)))), (3, (.c (.int .i64 (-2)))), (4, (.c (.int .i64 (-9)))), (5, (.c (.int .i64 1)))]),
 .op (some 31) none (.mov (.t 1)),
 .call (some 32) none (.fn 12) [(.t 31), (.c (.int .i64 6))],
 .op (some 33) none (.iaddr 1 (.t 30) (.t 32)),
 .op (some 34) none (.load none (.t 33)),
 .op (some 35) none (.bin .add (.t 29) (.t 34)),
 .op (some 36) none (.minmax true [(.c (.int .i64 0)), (.t 35)]),
 .op (some 8) none (.mov (.t 36))] [])
 (.seq (.items [.op (some 37) none (.mov (.t 1)),
 .call (some 38) none (.fn 22) [(.t 37)],
 .op (some 9) none (.mov (.t 38))] [])
 (.seq (.seq (.items [.op (some 39) none (.mov (.t 1)),
 .call (some 40) none (.fn 12) [(.t 39), (.c (.int .i64 12))],
 .op (some 41) none (.bin .eql (.t 40) (.c (.int .i64 0)))] [])
 (.cond (.t 41)
 (.items [.op (some 9) none (.mov (.c .nils))] [])
 (.skip)))
 (.seq (.seq (.items [] [10])
 (.items [.op (some 42) none (.mov (.t 0)),
 .op (some 43) none (.mov (.t 6)),
 .op (some 44) none (.mov (.t 7)),
 .op (some 45) none (.mov (.t 8)),
 .op (some 46) none (.mov (.t 9)),
 .call (some 47) none (.fn 23) [(.t 42), (.t 43), (.t 44), (.t 45), (.t 46)],
 .op (some 10) none (.lalloc (.agg [(.int .u64 0), (.int .i64 0)])),
 .op none none (.store 2 (.l 10) (.t 47))] []))
 (.seq (.items [.op (some 48) none (.mov (.t 6)),
 .op (some 49) none (.cvI .u64 (.t 48)),
 .op (some 50) none (.mov (.t 7)),
 .op (some 51) none (.cvI .u64 (.t 50)),
 .op (some 52) none (.mov (.t 8)),
 .op (some 53) none (.cvI .u64 (.t 52)),
 .op (some 54) none (.mov (.t 9)),
 .op (some 55) none (.build [(.int .u64 0), (.int .u64 0), (.int .u64 0), .nils] [(0, 1, (.t 49)), (1, 1, (.t 51)), (2, 1, (.t 53)), (3, 1, (.t 54))]),
 .op (some 56) none (.load (some 2) (.l 10)),
 .op none none (.store 4 (.l 4) (.t 55)),
 .chk 56 none (.load (some 2) (.l 10)),
 .op none none (.store 2 (.l 5) (.t 56))] [])
 (.ret)))))))),
 [.loc 4 (some 4), .loc 5 (some 2)], 2, false, false⟩
def a8 : Ann := { prom := [4, 5, 10], base := [], hps := [], frz := [], keepArgs := false, keepRes := false, ntmps := 57 }

/-- (*lapstone/judge.Judge).Say -/
def i9 : IRFn :=
 ⟨.seq (.seq (.items [] [4])
 (.items [.op (some 2) none (.hbox (.t 0)),
 .op (some 3) none (.hbox (.t 1)),
 .op (some 4) none (.lalloc (.agg [(.int .u64 0), (.int .i64 0)]))] []))
 (.seq (.seq (.items [.op (some 11) none (.load (some 4) (.t 3)),
 .call (some 12) none (.fn 24) [(.t 11)],
 .op (some 5) none (.mov (.t 12))] [])
 (.seq (.items [.op (some 13) none (.mov (.t 5)),
 .op (some 14) none (.bin .neq (.t 13) (.c (.int .i64 0)))] [])
 (.cond (.t 14)
 (.seq (.items [.op (some 15) none (.mov (.t 5)),
 .op (some 16) none (.build [(.int .u64 0), (.int .i64 0)] [(1, 1, (.t 15))]),
 .op none none (.store 2 (.l 4) (.t 16))] [])
 (.ret))
 (.skip))))
 (.seq (.items [.op (some 18) none (.load none (.t 2)),
 .op (some 19) none (.nilchk (.t 18)),
 .op (some 20) none (.faddr 2 (.t 19)),
 .op (some 21) none (.load none (.t 20)),
 .op (some 22) none (.faddr 0 (.t 3)),
 .op (some 23) none (.load none (.t 22)),
 .op (some 24) none (.lookup 0 (.agg [(.int .u64 0), (.int .u64 0), (.int .i64 0)]) true (.t 21) (.t 23)),
 .op (some 17) none (.mov (.t 24)),
 .op (some 25) none (.extract (.t 17) 0),
 .op (some 26) none (.extract (.t 17) 1),
 .op (some 6) none (.halloc [(.int .u64 0), (.int .u64 0), (.int .i64 0)]),
 .op (some 7) none (.halloc [(.bool false)]),
 .op none none (.store 3 (.t 6) (.t 25)),
 .op none none (.store 1 (.t 7) (.t 26))] [])
 (.seq (.seq (.items [.op (some 27) none (.load none (.t 7)),
 .op (some 28) none (.mov (.t 27)),
 .op (some 29) (some (28, true)) (.faddr 0 (.t 6)),
 .op (some 30) (some (28, true)) (.load none (.t 29)),
 .op (some 31) (some (28, true)) (.faddr 1 (.t 3)),
 .op (some 32) (some (28, true)) (.load none (.t 31)),
 .op (some 33) (some (28, true)) (.bin .eql (.t 30) (.t 32)),
 .op (some 34) none (.pick (.t 28) (.t 33) (.c (.bool false)))] [])
 (.cond (.t 34)
 (.seq (.items [.op (some 35) none (.faddr 1 (.t 6)),
 .op (some 36) none (.load (some 2) (.t 35)),
 .op none none (.store 2 (.l 4) (.t 36))] [])
 (.ret))
 (.skip)))
 (.seq (.seq (.items [.op (some 37) none (.mkfn (.func 25) [] [(.t 7), (.t 3), (.t 6)]),
 .op (some 38) none (.build [.nilf, (.int .i64 0)] [(0, 1, (.t 37)), (1, 1, (.c (.int .i64 193)))]),
 .op (some 39) none (.mkfn (.func 26) [] [(.t 3), (.t 2)]),
 .op (some 40) none (.build [.nilf, (.int .i64 0)] [(0, 1, (.t 39)), (1, 1, (.c (.int .i64 190)))]),
 .op (some 41) none (.mkfn (.func 27) [] [(.t 2)]),
 .op (some 42) none (.build [.nilf, (.int .i64 0)] [(0, 1, (.t 41)), (1, 1, (.c (.int .i64 192)))]),
 .op (some 43) none (.build [.nilf, (.int .i64 0), .nilf, (.int .i64 0), .nilf, (.int .i64 0)] [(0, 2, (.t 38)), (2, 2, (.t 40)), (4, 2, (.t 42))]),
 .op (some 44) none (.mov (.c (.int .i64 0)))] [])
 (.block 0
 (.loop
 (.seq (.items [.op (some 45) none (.bin .lss (.t 44) (.c (.int .i64 3)))] [])
 (.seq (.cond (.t 45)
 (.skip)
 (.exit 0))
 (.seq (.block 1
 (.seq (.seq (.items [] [9])
 (.items [.op (some 46) none (.idxA 3 2 true (.t 43) (.t 44)),
 .op (some 9) none (.lalloc (.agg [.nilf, (.int .i64 0)])),
 .op none none (.store 2 (.l 9) (.t 46))] []))
 (.seq (.items [.op (some 47) none (.faddr 0 (.l 9)),
 .op (some 48) none (.load none (.s 47 9)),
 .call (some 49) none (.dyn (.t 48)) []] [47])
 (.cond (.t 49)
 (.seq (.items [.op (some 50) none (.faddr 1 (.l 9)),
 .op (some 51) none (.load none (.s 50 9)),
 .op (some 52) none (.build [(.int .u64 0), (.int .i64 0)] [(1, 1, (.t 51))]),
 .op none none (.store 2 (.l 4) (.t 52))] [50])
 (.ret))
 (.skip)))))
 (.items [.op (some 53) none (.bin .add (.t 44) (.c (.int .i64 1))),
 .op (some 44) none (.mov (.t 53))] [])))))))
 (.seq (.seq (.items [] [10])
 (.items [.op (some 54) none (.build [(.int .u64 0), (.int .i64 0)] [(1, 1, (.c (.int .i64 191)))]),
 .op (some 10) none (.lalloc (.agg [(.int .u64 0), (.int .i64 0)])),
 .op none none (.store 2 (.l 10) (.t 54))] []))
 (.seq (.seq (.items [.op (some 55) none (.load none (.t 2)),
 .op (some 56) none (.load (some 4) (.t 3)),
 .call (some 57) none (.fn 28) [(.t 55), (.t 56)],
 .op (some 58) none (.un .not (.t 57))] [])
 (.cond (.t 58)
 (.items [.op (some 59) none (.load none (.t 2)),
 .op (some 60) none (.load (some 4) (.t 3)),
 .call (some 61) none (.fn 29) [(.t 59), (.t 60)],
 .op (some 62) none (.build [(.int .u64 0), (.int .i64 0)] [(0, 1, (.t 61))]),
 .op none none (.store 2 (.l 10) (.t 62))] [])
 (.skip)))
 (.seq (.items [.op (some 63) none (.load none (.t 2)),
 .op (some 64) none (.nilchk (.t 63)),
 .op (some 65) none (.faddr 2 (.t 64)),
 .op (some 66) none (.load none (.t 65)),
 .op (some 67) none (.faddr 0 (.t 3)),
 .op (some 68) none (.load none (.t 67)),
 .op (some 69) none (.faddr 1 (.t 3)),
 .op (some 70) none (.load none (.t 69)),
 .op (some 71) none (.load (some 2) (.l 10)),
 .op (some 72) none (.build [(.int .u64 0), (.int .u64 0), (.int .i64 0)] [(0, 1, (.t 70)), (1, 2, (.t 71))]),
 .op none none (.mupd 0 (.t 66) (.t 68) (.t 72))] [])
 (.seq (.items [.op (some 73) none (.load (some 2) (.l 10)),
 .op none none (.store 2 (.l 4) (.t 73))] [])
 (.ret))))))))),
 [.loc 4 (some 2)], 2, false, false⟩
def a9 : Ann := { prom := [4, 9, 10], base := [(47, 9), (50, 9)], hps := [], frz := [], keepArgs := false, keepRes := false, ntmps := 74 }

/-- (*lapstone/judge.Judge).Last -/
def i10 : IRFn :=
 ⟨.seq (.items [.op (some 2) none (.mov (.c (.int .u64 0)))] [])
 (.seq (.items [.op (some 3) none (.mov (.t 0)),
 .op (some 4) none (.nilchk (.t 3)),
 .op (some 5) none (.faddr 0 (.t 4)),
 .op (some 6) none (.load none (.t 5)),
 .op (some 2) none (.mov (.t 6))] [])
 (.ret)),
 [.tmp 2], 1, false, false⟩
def a10 : Ann := { prom := [], base := [], hps := [], frz := [], keepArgs := false, keepRes := false, ntmps := 7 }

/-- (*lapstone/lapstonetop.wholeBook).last -/
def i11 : IRFn :=
 ⟨.seq (.items [.op (some 2) none (.mov (.c (.int .i64 0)))] [])
 (.seq (.items [.op (some 3) none (.mov (.t 0)),
 .op (some 4) none (.nilchk (.t 3)),
 .op (some 5) none (.faddr 0 (.t 4)),
 .op (some 6) none (.load none (.t 5)),
 .op (some 7) none (.lenV (.t 6)),
 .op (some 2) none (.mov (.t 7))] [])
 (.ret)),
 [.tmp 2], 1, false, false⟩
def a11 : Ann := { prom := [], base := [], hps := [], frz := [], keepArgs := false, keepRes := false, ntmps := 8 }

/-- (*lapstone/lapstonetop.wholeDeal).next -/
def i12 : IRFn :=
 ⟨.seq (.items [.op (some 4) none (.mov (.c (.int .i64 0)))] [])
 (.seq (.seq (.items [.op (some 5) none (.mov (.t 0)),
 .op (some 6) none (.nilchk (.t 5)),
 .op (some 7) none (.faddr 1 (.t 6)),
 .op (some 8) none (.load none (.t 7)),
 .op (some 9) none (.mov (.t 0)),
 .op (some 10) none (.nilchk (.t 9)),
 .op (some 11) none (.faddr 0 (.t 10)),
 .op (some 12) none (.load none (.t 11)),
 .op (some 13) none (.lenV (.t 12)),
 .op (some 14) none (.bin .geq (.t 8) (.t 13))] [])
 (.cond (.t 14)
 (.seq (.items [.op (some 4) none (.mov (.c (.int .i64 0)))] [])
 (.ret))
 (.skip)))
 (.seq (.items [.op (some 15) none (.mov (.t 0)),
 .op (some 16) none (.nilchk (.t 15)),
 .op (some 17) none (.faddr 1 (.t 16)),
 .op (some 18) none (.load none (.t 17)),
 .op (some 19) none (.bin .add (.t 18) (.c (.int .i64 1))),
 .op (some 20) none (.nilchk (.t 15)),
 .op (some 21) none (.faddr 1 (.t 20)),
 .op none none (.store 1 (.t 21) (.t 19))] [])
 (.seq (.items [.op (some 22) none (.mov (.t 0)),
 .op (some 23) none (.nilchk (.t 22)),
 .op (some 24) none (.faddr 0 (.t 23)),
 .op (some 25) none (.load none (.t 24)),
 .op (some 26) none (.mov (.t 0)),
 .op (some 27) none (.nilchk (.t 26)),
 .op (some 28) none (.faddr 1 (.t 27)),
 .op (some 29) none (.load none (.t 28)),
 .op (some 30) none (.bin .sub (.t 29) (.c (.int .i64 1))),
 .op (some 31) none (.iaddr 1 (.t 25) (.t 30)),
 .op (some 32) none (.load none (.t 31)),
 .op (some 33) none (.mov (.t 1)),
 .call (some 34) none (.fn 30) [(.t 32), (.t 33)],
 .op (some 4) none (.mov (.t 34))] [])
 (.ret)))),
 [.tmp 4], 2, false, false⟩
def a12 : Ann := { prom := [], base := [], hps := [], frz := [], keepArgs := false, keepRes := false, ntmps := 35 }

/-- (lapstone/lapstonetop.wholeWrite).find -/
def i13 : IRFn :=
 ⟨.seq (.seq (.items [] [4])
 (.items [.op (some 4) none (.lalloc (.agg [(.str []), (.str []), (.bool false)])),
 .op (some 5) none (.mov (.c (.bool false)))] []))
 (.seq (.seq (.items [.op (some 6) none (.mov (.c (.int .i64 0)))] [])
 (.block 0
 (.loop
 (.seq (.seq (.items [.op (some 7) none (.mov (.t 6)),
 .op (some 8) none (.mov (.t 0)),
 .op (some 9) none (.lenV (.t 8)),
 .op (some 10) none (.bin .lss (.t 7) (.t 9))] [])
 (.cond (.t 10)
 (.skip)
 (.exit 0)))
 (.seq (.block 1
 (.seq (.items [.op (some 13) none (.mov (.t 0)),
 .op (some 14) none (.mov (.t 6)),
 .op (some 15) none (.iaddr 3 (.t 13) (.t 14)),
 .op (some 16) none (.faddr 0 (.t 15)),
 .op (some 17) none (.load none (.t 16)),
 .op (some 18) none (.mov (.t 1)),
 .op (some 19) none (.bin .eql (.t 17) (.t 18))] [])
 (.cond (.t 19)
 (.seq (.items [.op (some 20) none (.mov (.t 0)),
 .op (some 21) none (.mov (.t 6)),
 .op (some 22) none (.iaddr 3 (.t 20) (.t 21)),
 .op (some 23) none (.load (some 3) (.t 22)),
 .op none none (.store 3 (.l 4) (.t 23)),
 .op (some 5) none (.mov (.c (.bool true)))] [])
 (.ret))
 (.skip))))
 (.items [.op (some 11) none (.mov (.t 6)),
 .op (some 12) none (.bin .add (.t 11) (.c (.int .i64 1))),
 .op (some 6) none (.mov (.t 12))] []))))))
 (.seq (.items [.op (some 24) none (.build [(.str []), (.str []), (.bool false)] []),
 .op none none (.store 3 (.l 4) (.t 24)),
 .op (some 5) none (.mov (.c (.bool false)))] [])
 (.ret))),
 [.loc 4 (some 3), .tmp 5], 2, false, false⟩
def a13 : Ann := { prom := [4], base := [], hps := [], frz := [], keepArgs := false, keepRes := false, ntmps := 25 }

/-- (*lapstone/judge.Judge).When -/
def i14 : IRFn :=
 ⟨.seq (.items [.op (some 4) none (.mov (.c (.int .u64 0)))] [])
 (.seq (.items [.op (some 5) none (.mov (.t 0)),
 .op (some 6) none (.nilchk (.t 5)),
 .op (some 7) none (.faddr 1 (.t 6)),
 .op (some 8) none (.load none (.t 7)),
 .op (some 9) none (.mov (.t 1)),
 .op (some 10) none (.lookup 1 (.int .u64 0) false (.t 8) (.t 9)),
 .op (some 4) none (.mov (.t 10))] [])
 (.ret)),
 [.tmp 4], 2, false, false⟩
def a14 : Ann := { prom := [], base := [], hps := [], frz := [], keepArgs := false, keepRes := false, ntmps := 11 }

/-- lapstone/lapstonetop.fresh -/
def i15 : IRFn :=
 ⟨.seq (.items [.op (some 0) none (.mov (.c .nilp)),
 .op (some 1) none (.mov (.c .nilp)),
 .op (some 2) none (.mov (.c .nilp))] [])
 (.seq (.items [.call (some 10) none (.fn 31) [(.c (.int .i64 1000))],
 .op (some 9) none (.mov (.t 10)),
 .op (some 11) none (.extract (.t 9) 0),
 .op (some 12) none (.extract (.t 9) 1),
 .op (some 3) none (.mov (.t 11)),
 .op (some 4) none (.mov (.t 12))] [])
 (.seq (.seq (.items [.op (some 13) none (.mov (.t 4)),
 .op (some 14) none (.bin .neq (.t 13) (.c (.int .i64 0))),
 .op (some 15) none (.mov (.t 14)),
 .op (some 16) (some (15, false)) (.mov (.t 3)),
 .op (some 17) (some (15, false)) (.eqN false (.t 16) .nilp),
 .op (some 18) none (.pick (.t 15) (.c (.bool true)) (.t 17))] [])
 (.cond (.t 18)
 (.seq (.items [.op (some 0) none (.mov (.c .nilp)),
 .op (some 1) none (.mov (.c .nilp)),
 .op (some 2) none (.mov (.c .nilp))] [])
 (.ret))
 (.skip)))
 (.seq (.items [.op (some 20) none (.mov (.t 3)),
 .call (some 21) none (.fn 19) [(.t 20)],
 .op (some 19) none (.mov (.t 21)),
 .op (some 22) none (.extract (.t 19) 0),
 .op (some 23) none (.extract (.t 19) 1),
 .op (some 5) none (.mov (.t 22)),
 .op (some 6) none (.mov (.t 23))] [])
 (.seq (.seq (.items [.op (some 24) none (.mov (.t 6)),
 .op (some 25) none (.bin .neq (.t 24) (.c (.int .i64 0))),
 .op (some 26) none (.mov (.t 25)),
 .op (some 27) (some (26, false)) (.mov (.t 5)),
 .op (some 28) (some (26, false)) (.eqN false (.t 27) .nilp),
 .op (some 29) none (.pick (.t 26) (.c (.bool true)) (.t 28))] [])
 (.cond (.t 29)
 (.seq (.items [.op (some 0) none (.mov (.c .nilp)),
 .op (some 1) none (.mov (.c .nilp)),
 .op (some 2) none (.mov (.c .nilp))] [])
 (.ret))
 (.skip)))
 (.seq (.items [.op (some 31) none (.mov (.t 5)),
 .call (some 32) none (.fn 20) [(.t 31)],
 .op (some 30) none (.mov (.t 32)),
 .op (some 33) none (.extract (.t 30) 0),
 .op (some 34) none (.extract (.t 30) 1),
 .op (some 7) none (.mov (.t 33)),
 .op (some 8) none (.mov (.t 34))] [])
 (.seq (.seq (.items [.op (some 35) none (.mov (.t 8)),
 .op (some 36) none (.bin .neq (.t 35) (.c (.int .i64 0)))] [])
 (.cond (.t 36)
 (.seq (.items [.op (some 0) none (.mov (.c .nilp)),
 .op (some 1) none (.mov (.c .nilp)),
 .op (some 2) none (.mov (.c .nilp))] [])
 (.ret))
 (.skip)))
 (.seq (.items [.op (some 37) none (.mov (.t 3)),
 .op (some 38) none (.mov (.t 5)),
 .op (some 39) none (.mov (.t 7)),
 .op (some 0) none (.mov (.t 37)),
 .op (some 1) none (.mov (.t 38)),
 .op (some 2) none (.mov (.t 39))] [])
 (.ret)))))))),
 [.tmp 0, .tmp 1, .tmp 2], 0, false, false⟩
def a15 : Ann := { prom := [], base := [], hps := [], frz := [], keepArgs := false, keepRes := false, ntmps := 40 }

/-- (*lapstone/view.View).Commit -/
def i16 : IRFn :=
 ⟨.seq (.items [.op (some 6) none (.mov (.c (.int .i64 0)))] [])
 (.seq (.block 0
 (.seq (.items [.op (some 13) none (.mov (.t 1)),
 .op (some 14) none (.mov (.t 0)),
 .op (some 15) none (.nilchk (.t 14)),
 .op (some 16) none (.faddr 1 (.t 15)),
 .op (some 17) none (.load none (.t 16)),
 .op (some 18) none (.bin .add (.t 17) (.c (.int .u64 1))),
 .op (some 19) none (.bin .neq (.t 13) (.t 18)),
 .op (some 20) none (.mov (.t 19)),
 .op (some 21) (some (20, false)) (.mov (.t 1)),
 .op (some 22) (some (20, false)) (.bin .gtr (.t 21) (.c (.int .u64 9223372036854775807))),
 .op (some 23) none (.pick (.t 20) (.c (.bool true)) (.t 22)),
 .op (some 12) none (.mov (.t 23))] [])
 (.cond (.t 12)
 (.seq (.items [.op (some 6) none (.mov (.c (.int .i64 170)))] [])
 (.ret))
 (.seq (.items [.op (some 25) none (.mov (.t 2)),
 .op (some 26) none (.build [(.int .u64 0), (.int .u64 0), (.int .u64 0), .nils] [(3, 1, (.t 25))]),
 .call (some 27) none (.fn 24) [(.t 26)],
 .op (some 28) none (.bin .neq (.t 27) (.c (.int .i64 0))),
 .op (some 24) none (.mov (.t 28))] [])
 (.cond (.t 24)
 (.seq (.items [.op (some 6) none (.mov (.c (.int .i64 174)))] [])
 (.ret))
 (.skip))))))
 (.seq (.items [.op (some 29) none (.mov (.t 1)),
 .op (some 30) none (.mov (.t 0)),
 .op (some 31) none (.nilchk (.t 30)),
 .op (some 32) none (.faddr 2 (.t 31)),
 .op (some 33) none (.load none (.t 32)),
 .call (some 34) none (.fn 32) [(.t 29), (.t 33)],
 .op (some 35) none (.bslice false (.agg [(.str []), (.str []), (.bool false)]) 1 [(0, (.t 34))]),
 .op (some 7) none (.mov (.t 35))] [])
 (.seq (.seq (.items [.op (some 36) none (.mov (.t 2)),
 .op (some 37) none (.lenV (.t 36)),
 .op (some 38) none (.mov (.c (.int .i64 0)))] [])
 (.block 1
 (.loop
 (.seq (.items [.op (some 39) none (.bin .lss (.t 38) (.t 37))] [])
 (.seq (.cond (.t 39)
 (.skip)
 (.exit 1))
 (.seq (.block 2
 (.seq (.seq (.items [] [9])
 (.items [.op (some 40) none (.iaddr 3 (.t 36) (.t 38)),
 .op (some 41) none (.load (some 3) (.t 40)),
 .op (some 9) none (.lalloc (.agg [(.str []), (.str []), (.bool false)])),
 .op none none (.store 3 (.l 9) (.t 41))] []))
 (.items [.op (some 42) none (.mov (.t 7)),
 .op (some 43) none (.faddr 0 (.l 9)),
 .op (some 44) none (.load none (.s 43 9)),
 .op (some 45) none (.mov (.t 1)),
 .op (some 47) none (.faddr 1 (.l 9)),
 .op (some 48) none (.load none (.s 47 9)),
 .op (some 49) none (.faddr 2 (.l 9)),
 .op (some 50) none (.load none (.s 49 9)),
 .op (some 51) none (.build [(.int .u64 0), (.str []), (.bool false)] [(1, 1, (.t 48)), (2, 1, (.t 50))]),
 .call (some 46) none (.fn 33) [(.t 44), (.t 45)],
 .chk 47 none (.faddr 1 (.l 9)),
 .chk 48 none (.load none (.s 47 9)),
 .chk 49 none (.faddr 2 (.l 9)),
 .chk 50 none (.load none (.s 49 9)),
 .call (some 52) none (.fn 34) [(.t 51)],
 .op (some 53) none (.build [(.str []), (.str []), (.bool false)] [(0, 1, (.t 46)), (1, 1, (.t 52))]),
 .op (some 54) none (.bslice false (.agg [(.str []), (.str []), (.bool false)]) 1 [(0, (.t 53))]),
 .op (some 55) none (.append 3 true false false (.t 42) (.t 54)),
 .op (some 7) none (.mov (.t 55))] [43, 47, 49])))
 (.items [.op (some 56) none (.bin .add (.t 38) (.c (.int .i64 1))),
 .op (some 38) none (.mov (.t 56))] [])))))))
 (.seq (.seq (.items [.op (some 58) none (.mov (.t 0)),
 .op (some 59) none (.nilchk (.t 58)),
 .op (some 60) none (.faddr 0 (.t 59)),
 .op (some 61) none (.load none (.t 60)),
 .op (some 62) none (.mov (.t 7)),
 .call (some 63) none (.fn 35) [(.t 61), (.t 62)],
 .op (some 57) none (.mov (.t 63)),
 .op (some 64) none (.extract (.t 57) 0),
 .op (some 65) none (.extract (.t 57) 1),
 .op (some 10) none (.mov (.t 64)),
 .op (some 11) none (.mov (.t 65))] [])
 (.seq (.items [.op (some 66) none (.mov (.t 11)),
 .op (some 67) none (.bin .neq (.t 66) (.c (.int .i64 0)))] [])
 (.cond (.t 67)
 (.seq (.items [.op (some 68) none (.mov (.t 11)),
 .op (some 6) none (.mov (.t 68))] [])
 (.ret))
 (.skip))))
 (.seq (.items [.op (some 69) none (.mov (.t 0)),
 .op (some 70) none (.mov (.t 1)),
 .op (some 71) none (.nilchk (.t 69)),
 .op (some 72) none (.faddr 1 (.t 71)),
 .op none none (.store 1 (.t 72) (.t 70))] [])
 (.seq (.items [.op (some 6) none (.mov (.c (.int .i64 0)))] [])
 (.ret))))))),
 [.tmp 6], 3, false, false⟩
def a16 : Ann := { prom := [9], base := [(43, 9), (47, 9), (49, 9)], hps := [], frz := [], keepArgs := false, keepRes := false, ntmps := 73 }

/-- (*lapstone/store.Store).Sync -/
def i17 : IRFn :=
 ⟨.items [.op (some 2) none (.mov (.t 0)),
 .op (some 3) none (.nilchk (.t 2)),
 .op (some 4) none (.faddr 2 (.t 3)),
 .op (some 5) none (.load none (.t 4)),
 .call (some 6) none (.fn 36) [(.t 5)]] [],
 [], 1, false, false⟩
def a17 : Ann := { prom := [], base := [], hps := [], frz := [], keepArgs := false, keepRes := false, ntmps := 7 }

/-- (*lapstone/disk.Disk).Crash -/
def i18 : IRFn :=
 ⟨.seq (.items [.op (some 10) none .mkmap,
 .op (some 4) none (.mov (.t 10))] [])
 (.seq (.seq (.items [.op (some 11) none (.mov (.t 1)),
 .op (some 12) none (.lenV (.t 11)),
 .op (some 13) none (.bin .sub (.t 12) (.c (.int .i64 1))),
 .op (some 5) none (.mov (.t 13))] [])
 (.block 0
 (.loop
 (.seq (.seq (.items [.op (some 14) none (.mov (.t 5)),
 .op (some 15) none (.bin .geq (.t 14) (.c (.int .i64 0)))] [])
 (.cond (.t 15)
 (.skip)
 (.exit 0)))
 (.seq (.block 1
 (.items [.op (some 18) none (.mov (.t 4)),
 .op (some 19) none (.mov (.t 1)),
 .op (some 20) none (.mov (.t 5)),
 .op (some 21) none (.iaddr 2 (.t 19) (.t 20)),
 .op (some 22) none (.faddr 0 (.t 21)),
 .op (some 23) none (.load none (.t 22)),
 .op (some 24) none (.mov (.t 1)),
 .op (some 25) none (.mov (.t 5)),
 .op (some 26) none (.iaddr 2 (.t 24) (.t 25)),
 .op (some 27) none (.faddr 1 (.t 26)),
 .op (some 28) none (.load none (.t 27)),
 .op none none (.mupd 0 (.t 18) (.t 23) (.t 28))] []))
 (.items [.op (some 16) none (.mov (.t 5)),
 .op (some 17) none (.bin .sub (.t 16) (.c (.int .i64 1))),
 .op (some 5) none (.mov (.t 17))] []))))))
 (.seq (.seq (.items [.op (some 29) none (.mov (.t 0)),
 .op (some 30) none (.nilchk (.t 29)),
 .op (some 31) none (.faddr 4 (.t 30)),
 .op (some 32) none (.load none (.t 31)),
 .op (some 33) none (.lenV (.t 32)),
 .op (some 34) none (.mov (.c (.int .i64 0)))] [])
 (.block 2
 (.loop
 (.seq (.items [.op (some 35) none (.bin .lss (.t 34) (.t 33))] [])
 (.seq (.cond (.t 35)
 (.skip)
 (.exit 2))
 (.seq (.block 3
 (.seq (.items [.op (some 36) none (.mov (.t 34)),
 .op (some 37) none (.iaddr 1 (.t 32) (.t 34)),
 .op (some 38) none (.load none (.t 37)),
 .op (some 6) none (.mov (.t 36)),
 .op (some 7) none (.mov (.t 38))] [])
 (.seq (.items [.op (some 40) none (.mov (.t 4)),
 .op (some 41) none (.mov (.t 6)),
 .op (some 42) none (.lookup 0 (.int .i64 0) true (.t 40) (.t 41)),
 .op (some 39) none (.mov (.t 42)),
 .op (some 43) none (.extract (.t 39) 0),
 .op (some 44) none (.extract (.t 39) 1),
 .op (some 8) none (.mov (.t 43)),
 .op (some 9) none (.mov (.t 44))] [])
 (.seq (.items [.op (some 45) none (.mov (.t 9))] [])
 (.cond (.t 45)
 (.items [.op (some 46) none (.mov (.t 7)),
 .op (some 47) none (.mov (.t 0)),
 .op (some 48) none (.nilchk (.t 47)),
 .op (some 49) none (.faddr 3 (.t 48)),
 .op (some 50) none (.load none (.t 49)),
 .op (some 51) none (.mov (.t 8)),
 .call (some 52) none (.dyn (.t 46)) [(.t 50), (.t 51)]] [])
 (.skip))))))
 (.items [.op (some 53) none (.bin .add (.t 34) (.c (.int .i64 1))),
 .op (some 34) none (.mov (.t 53))] [])))))))
 (.items [.op (some 54) none (.mov (.t 0)),
 .op (some 55) none (.mov (.t 0)),
 .op (some 56) none (.mov (.t 0)),
 .op (some 57) none (.nilchk (.t 56)),
 .op (some 58) none (.faddr 3 (.t 57)),
 .op (some 59) none (.load none (.t 58)),
 .call (some 60) none (.fn 37) [(.t 59)],
 .op (some 61) none (.nilchk (.t 54)),
 .op (some 62) none (.faddr 2 (.t 61)),
 .op none none (.store 1 (.t 62) (.t 60)),
 .op (some 63) none (.nilchk (.t 55)),
 .op (some 64) none (.faddr 4 (.t 63)),
 .op none none (.store 1 (.t 64) (.c .nils))] []))),
 [], 2, false, false⟩
def a18 : Ann := { prom := [], base := [], hps := [], frz := [], keepArgs := false, keepRes := false, ntmps := 65 }

/-- lapstone/store.Open -/
def i19 : IRFn :=
 ⟨.seq (.items [.op (some 2) none (.mov (.c .nilp)),
 .op (some 3) none (.mov (.c (.int .i64 0)))] [])
 (.seq (.items [.op (some 15) none (.mov (.t 0)),
 .call (some 16) none (.fn 38) [(.t 15), (.c (.int .i64 0)), (.c (.int .i64 200))],
 .op (some 14) none (.mov (.t 16)),
 .op (some 17) none (.extract (.t 14) 0),
 .op (some 18) none (.extract (.t 14) 1),
 .op (some 4) none (.mov (.t 17)),
 .op (some 5) none (.mov (.t 18))] [])
 (.seq (.seq (.items [.op (some 19) none (.mov (.t 5)),
 .op (some 20) none (.bin .neq (.t 19) (.c (.int .i64 0)))] [])
 (.cond (.t 20)
 (.seq (.items [.op (some 21) none (.mov (.t 5)),
 .op (some 2) none (.mov (.c .nilp)),
 .op (some 3) none (.mov (.t 21))] [])
 (.ret))
 (.skip)))
 (.seq (.items [.op (some 23) none (.mov (.t 4)),
 .call (some 24) none (.fn 39) [(.t 23)],
 .op (some 22) none (.mov (.t 24)),
 .op (some 25) none (.extract (.t 22) 0),
 .op (some 26) none (.extract (.t 22) 1),
 .op (some 6) none (.mov (.t 25)),
 .op (some 5) none (.mov (.t 26))] [])
 (.seq (.seq (.items [.op (some 27) none (.mov (.t 5)),
 .op (some 28) none (.bin .neq (.t 27) (.c (.int .i64 0)))] [])
 (.cond (.t 28)
 (.seq (.items [.op (some 29) none (.mov (.t 5)),
 .op (some 2) none (.mov (.c .nilp)),
 .op (some 3) none (.mov (.t 29))] [])
 (.ret))
 (.skip)))
 (.seq (.items [.op (some 31) none (.mov (.t 0)),
 .op (some 32) none (.mov (.t 4)),
 .call (some 33) none (.fn 41) [(.t 32)],
 .call (some 34) none (.fn 40) [(.t 31), (.c (.int .i64 802)), (.c (.int .i64 8)), (.c (.int .i64 16)), (.t 33)],
 .op (some 30) none (.mov (.t 34)),
 .op (some 35) none (.extract (.t 30) 0),
 .op (some 36) none (.extract (.t 30) 1),
 .op (some 37) none (.extract (.t 30) 2),
 .op (some 7) none (.mov (.t 35)),
 .op (some 8) none (.mov (.t 36)),
 .op (some 5) none (.mov (.t 37))] [])
 (.seq (.seq (.items [.op (some 38) none (.mov (.t 5)),
 .op (some 39) none (.bin .neq (.t 38) (.c (.int .i64 0)))] [])
 (.cond (.t 39)
 (.seq (.items [.op (some 40) none (.mov (.t 5)),
 .op (some 2) none (.mov (.c .nilp)),
 .op (some 3) none (.mov (.t 40))] [])
 (.ret))
 (.skip)))
 (.seq (.items [.op (some 41) none (.mov (.t 6)),
 .op (some 42) none (.mov (.t 4)),
 .op (some 43) none (.mov (.t 7)),
 .op (some 44) none (.build [.nilp, .nilp, .nilp] [(0, 1, (.t 41)), (1, 1, (.t 42)), (2, 1, (.t 43))]),
 .op (some 45) none (.hbox (.t 44)),
 .op (some 9) none (.mov (.t 45))] [])
 (.seq (.seq (.items [.op (some 46) none (.mov (.t 8)),
 .op (some 47) none (.lenV (.t 46)),
 .op (some 48) none (.mov (.c (.int .i64 0)))] [])
 (.block 0
 (.loop
 (.seq (.items [.op (some 49) none (.bin .lss (.t 48) (.t 47))] [])
 (.seq (.cond (.t 49)
 (.skip)
 (.exit 0))
 (.seq (.block 1
 (.seq (.seq (.items [] [11])
 (.items [.op (some 50) none (.iaddr 2 (.t 46) (.t 48)),
 .op (some 51) none (.load (some 2) (.t 50)),
 .op (some 11) none (.lalloc (.agg [(.int .u64 0), (.str [])])),
 .op none none (.store 2 (.l 11) (.t 51))] []))
 (.seq (.items [.op (some 53) none (.faddr 1 (.l 11)),
 .op (some 54) none (.load none (.s 53 11)),
 .call (some 55) none (.fn 42) [(.t 54)],
 .op (some 52) none (.mov (.t 55)),
 .op (some 56) none (.extract (.t 52) 0),
 .op (some 57) none (.extract (.t 52) 1),
 .op (some 12) none (.mov (.t 56)),
 .op (some 13) none (.mov (.t 57))] [53])
 (.seq (.seq (.items [.op (some 58) none (.mov (.t 13)),
 .op (some 59) none (.un .not (.t 58)),
 .op (some 60) none (.mov (.t 59)),
 .op (some 61) (some (60, false)) (.mov (.t 9)),
 .op (some 62) (some (60, false)) (.mov (.t 12)),
 .call (some 63) (some (60, false)) (.fn 43) [(.t 61), (.t 62)],
 .op (some 64) (some (60, false)) (.bin .neq (.t 63) (.c (.int .i64 0))),
 .op (some 65) none (.pick (.t 60) (.c (.bool true)) (.t 64))] [])
 (.cond (.t 65)
 (.seq (.items [.op (some 2) none (.mov (.c .nilp)),
 .op (some 3) none (.mov (.c (.int .i64 150)))] [])
 (.ret))
 (.skip)))
 (.items [.op (some 66) none (.mov (.t 9)),
 .op (some 67) none (.mov (.t 12)),
 .call (some 68) none (.fn 44) [(.t 66), (.t 67)]] [])))))
 (.items [.op (some 69) none (.bin .add (.t 48) (.c (.int .i64 1))),
 .op (some 48) none (.mov (.t 69))] [])))))))
 (.seq (.items [.op (some 70) none (.mov (.t 9)),
 .op (some 2) none (.mov (.t 70)),
 .op (some 3) none (.mov (.c (.int .i64 0)))] [])
 (.ret)))))))))),
 [.tmp 2, .tmp 3], 1, false, false⟩
def a19 : Ann := { prom := [11], base := [(53, 11)], hps := [], frz := [], keepArgs := false, keepRes := false, ntmps := 71 }

/-- lapstone/view.Open -/
def i20 : IRFn :=
 ⟨.seq (.items [.op (some 2) none (.mov (.c .nilp)),
 .op (some 3) none (.mov (.c (.int .i64 0)))] [])
 (.seq (.items [.op (some 14) none (.mov (.t 0)),
 .op (some 15) none (.build [.nilp, (.int .u64 0), (.int .u64 0)] [(0, 1, (.t 14))]),
 .op (some 16) none (.hbox (.t 15)),
 .op (some 4) none (.mov (.t 16))] [])
 (.seq (.items [.op (some 17) none (.mov (.t 0)),
 .op (some 18) none (.nilchk (.t 17)),
 .op (some 19) none (.faddr 0 (.t 18)),
 .op (some 20) none (.load none (.t 19)),
 .op (some 21) none (.build [(.str []), (.str []), (.bool false), (.bool false), (.int .i64 0)] [(2, 1, (.c (.bool true))), (4, 1, (.c (.int .i64 (-1))))]),
 .call (some 22) none (.fn 45) [(.t 20), (.t 21)],
 .op (some 5) none (.mov (.t 22))] [])
 (.seq (.seq (.items [.op (some 23) none (.mov (.t 5)),
 .op (some 24) none (.lenV (.t 23)),
 .op (some 25) none (.bin .eql (.t 24) (.c (.int .i64 0)))] [])
 (.cond (.t 25)
 (.seq (.items [.op (some 26) none (.mov (.t 4)),
 .op (some 2) none (.mov (.t 26)),
 .op (some 3) none (.mov (.c (.int .i64 0)))] [])
 (.ret))
 (.skip)))
 (.seq (.items [.op (some 28) none (.mov (.t 0)),
 .op (some 29) none (.nilchk (.t 28)),
 .op (some 30) none (.faddr 0 (.t 29)),
 .op (some 31) none (.load none (.t 30)),
 .call (some 32) none (.fn 46) [(.t 31), (.c (.str [109]))],
 .op (some 27) none (.mov (.t 32)),
 .op (some 33) none (.extract (.t 27) 0),
 .op (some 34) none (.extract (.t 27) 1),
 .op (some 6) none (.mov (.t 33)),
 .op (some 7) none (.mov (.t 34))] [])
 (.seq (.items [.op (some 35) none (.mov (.t 6)),
 .op (some 36) none (.cvB (.t 35)),
 .call (some 37) none (.fn 47) [(.t 36)],
 .op (some 8) none (.mov (.t 37))] [])
 (.seq (.items [.op (some 38) none (.mov (.t 4)),
 .op (some 39) none (.mov (.t 4)),
 .op (some 40) none (.mov (.t 8)),
 .call (some 41) none (.fn 48) [(.t 40)],
 .op (some 42) none (.mov (.t 8)),
 .call (some 43) none (.fn 48) [(.t 42)],
 .op (some 44) none (.nilchk (.t 38)),
 .op (some 45) none (.faddr 1 (.t 44)),
 .op none none (.store 1 (.t 45) (.t 41)),
 .op (some 46) none (.nilchk (.t 39)),
 .op (some 47) none (.faddr 2 (.t 46)),
 .op none none (.store 1 (.t 47) (.t 43))] [])
 (.seq (.seq (.items [.op (some 48) none (.mov (.t 7)),
 .op (some 49) none (.bin .neq (.t 48) (.c (.int .i64 0))),
 .op (some 50) none (.mov (.t 49)),
 .op (some 51) (some (50, false)) (.mov (.t 8)),
 .call (some 52) (some (50, false)) (.fn 49) [(.t 51)],
 .op (some 53) (some (50, false)) (.bin .neq (.t 52) (.c (.int .i64 0))),
 .op (some 54) none (.pick (.t 50) (.c (.bool true)) (.t 53)),
 .op (some 55) none (.mov (.t 54)),
 .op (some 56) (some (55, false)) (.mov (.t 4)),
 .op (some 57) (some (55, false)) (.nilchk (.t 56)),
 .op (some 58) (some (55, false)) (.faddr 2 (.t 57)),
 .op (some 59) (some (55, false)) (.load none (.t 58)),
 .op (some 60) (some (55, false)) (.mov (.t 4)),
 .op (some 61) (some (55, false)) (.nilchk (.t 60)),
 .op (some 62) (some (55, false)) (.faddr 1 (.t 61)),
 .op (some 63) (some (55, false)) (.load none (.t 62)),
 .op (some 64) (some (55, false)) (.bin .gtr (.t 59) (.t 63)),
 .op (some 65) none (.pick (.t 55) (.c (.bool true)) (.t 64))] [])
 (.cond (.t 65)
 (.seq (.items [.op (some 2) none (.mov (.c .nilp)),
 .op (some 3) none (.mov (.c (.int .i64 173)))] [])
 (.ret))
 (.skip)))
 (.seq (.seq (.items [.op (some 66) none (.mov (.t 5)),
 .op (some 67) none (.lenV (.t 66)),
 .op (some 68) none (.mov (.c (.int .i64 0)))] [])
 (.block 0
 (.loop
 (.seq (.items [.op (some 69) none (.bin .lss (.t 68) (.t 67))] [])
 (.seq (.cond (.t 69)
 (.skip)
 (.exit 0))
 (.seq (.block 1
 (.seq (.seq (.items [] [10])
 (.items [.op (some 70) none (.iaddr 2 (.t 66) (.t 68)),
 .op (some 71) none (.load (some 2) (.t 70)),
 .op (some 10) none (.lalloc (.agg [(.str []), (.str [])])),
 .op none none (.store 2 (.l 10) (.t 71))] []))
 (.seq (.seq (.items [.op (some 72) none (.faddr 0 (.l 10)),
 .op (some 73) none (.load none (.s 72 10)),
 .op (some 74) none (.bin .eql (.t 73) (.c (.str [109])))] [72])
 (.cond (.t 74)
 (.exit 1)
 (.skip)))
 (.seq (.seq (.items [] [12])
 (.items [.op (some 76) none (.load (some 2) (.l 10)),
 .call (some 77) none (.fn 50) [(.t 76)],
 .op (some 75) none (.mov (.t 77)),
 .op (some 78) none (.extract (.t 75) 0),
 .op (some 79) none (.extract (.t 75) 1),
 .op (some 80) none (.extract (.t 75) 2),
 .op (some 12) none (.lalloc (.agg [(.int .u64 0), (.str []), (.bool false)])),
 .op (some 11) none (.mov (.t 78)),
 .op none none (.store 3 (.l 12) (.t 79)),
 .op (some 13) none (.mov (.t 80))] []))
 (.seq (.items [.op (some 81) none (.mov (.t 13)),
 .op (some 82) none (.un .not (.t 81)),
 .op (some 83) none (.mov (.t 82)),
 .op (some 84) (some (83, false)) (.faddr 0 (.l 12)),
 .op (some 85) (some (83, false)) (.load none (.s 84 12)),
 .op (some 86) (some (83, false)) (.bin .eql (.t 85) (.c (.int .u64 0))),
 .op (some 87) none (.pick (.t 83) (.c (.bool true)) (.t 86)),
 .op (some 88) none (.mov (.t 87)),
 .op (some 89) (some (88, false)) (.faddr 0 (.l 12)),
 .op (some 90) (some (88, false)) (.load none (.s 89 12)),
 .op (some 91) (some (88, false)) (.mov (.t 4)),
 .op (some 92) (some (88, false)) (.nilchk (.t 91)),
 .op (some 93) (some (88, false)) (.faddr 1 (.t 92)),
 .op (some 94) (some (88, false)) (.load none (.t 93)),
 .op (some 95) (some (88, false)) (.bin .gtr (.t 90) (.t 94)),
 .op (some 96) none (.pick (.t 88) (.c (.bool true)) (.t 95))] [84, 89])
 (.cond (.t 96)
 (.seq (.items [.op (some 2) none (.mov (.c .nilp)),
 .op (some 3) none (.mov (.c (.int .i64 173)))] [])
 (.ret))
 (.skip)))))))
 (.items [.op (some 97) none (.bin .add (.t 68) (.c (.int .i64 1))),
 .op (some 68) none (.mov (.t 97))] [])))))))
 (.seq (.items [.op (some 98) none (.mov (.t 4)),
 .op (some 2) none (.mov (.t 98)),
 .op (some 3) none (.mov (.c (.int .i64 0)))] [])
 (.ret)))))))))),
 [.tmp 2, .tmp 3], 1, false, false⟩
def a20 : Ann := { prom := [10, 12], base := [(72, 10), (84, 12), (89, 12)], hps := [], frz := [], keepArgs := false, keepRes := false, ntmps := 99 }

/-- (*lapstone/view.View).Get -/
def i21 : IRFn :=
 ⟨.seq (.items [.op (some 6) none (.mov (.c (.str []))),
 .op (some 7) none (.mov (.c (.int .i64 0)))] [])
 (.seq (.seq (.items [.op (some 11) none (.mov (.t 0)),
 .op (some 12) none (.mov (.t 2)),
 .call (some 13) none (.fn 51) [(.t 11), (.t 12)],
 .op (some 8) none (.mov (.t 13))] [])
 (.seq (.items [.op (some 14) none (.mov (.t 8)),
 .op (some 15) none (.bin .neq (.t 14) (.c (.int .i64 0)))] [])
 (.cond (.t 15)
 (.seq (.items [.op (some 16) none (.mov (.t 8)),
 .op (some 6) none (.mov (.c (.str []))),
 .op (some 7) none (.mov (.t 16))] [])
 (.ret))
 (.skip))))
 (.seq (.items [.op (some 18) none (.mov (.t 0)),
 .op (some 19) none (.mov (.t 1)),
 .op (some 20) none (.mov (.t 2)),
 .call (some 21) none (.fn 52) [(.t 18), (.t 19), (.t 20)],
 .op (some 17) none (.mov (.t 21)),
 .op (some 22) none (.extract (.t 17) 0),
 .op (some 23) none (.extract (.t 17) 1),
 .op (some 9) none (.mov (.t 22)),
 .op (some 10) none (.mov (.t 23))] [])
 (.seq (.seq (.items [.op (some 24) none (.mov (.t 10)),
 .op (some 25) none (.un .not (.t 24))] [])
 (.cond (.t 25)
 (.seq (.items [.op (some 6) none (.mov (.c (.str []))),
 .op (some 7) none (.mov (.c (.int .i64 161)))] [])
 (.ret))
 (.skip)))
 (.seq (.items [.op (some 26) none (.mov (.t 9)),
 .op (some 6) none (.mov (.t 26)),
 .op (some 7) none (.mov (.c (.int .i64 0)))] [])
 (.ret))))),
 [.tmp 6, .tmp 7], 3, false, false⟩
def a21 : Ann := { prom := [], base := [], hps := [], frz := [], keepArgs := false, keepRes := false, ntmps := 27 }

/-- (*lapstone/lapstonetop.wholeDeal).batch -/
def i22 : IRFn :=
 ⟨.seq (.items [.op (some 2) none (.mov (.c .nils))] [])
 (.seq (.items [.call (some 8) none (.fn 6) [],
 .op (some 3) none (.mov (.t 8))] [])
 (.seq (.items [.op (some 4) none (.mov (.c .nils))] [])
 (.seq (.items [.op (some 9) none (.mov (.t 0)),
 .call (some 10) none (.fn 12) [(.t 9), (.c (.int .i64 10))],
 .op (some 5) none (.mov (.t 10))] [])
 (.seq (.seq (.items [.op (some 11) none (.mov (.t 0)),
 .call (some 12) none (.fn 12) [(.t 11), (.c (.int .i64 4))],
 .op (some 13) none (.bin .add (.c (.int .i64 1)) (.t 12)),
 .op (some 6) none (.mov (.t 13))] [])
 (.block 0
 (.loop
 (.seq (.seq (.items [.op (some 14) none (.mov (.t 6)),
 .op (some 15) none (.bin .gtr (.t 14) (.c (.int .i64 0))),
 .op (some 16) none (.mov (.t 15)),
 .op (some 17) (some (16, true)) (.mov (.t 5)),
 .op (some 18) (some (16, true)) (.mov (.t 3)),
 .op (some 19) (some (16, true)) (.lenV (.t 18)),
 .op (some 20) (some (16, true)) (.bin .lss (.t 17) (.t 19)),
 .op (some 21) none (.pick (.t 16) (.t 20) (.c (.bool false)))] [])
 (.cond (.t 21)
 (.skip)
 (.exit 0)))
 (.seq (.block 1
 (.seq (.seq (.items [] [7])
 (.items [.op (some 24) none (.mov (.t 3)),
 .op (some 25) none (.mov (.t 5)),
 .op (some 26) none (.iaddr 1 (.t 24) (.t 25)),
 .op (some 27) none (.load none (.t 26)),
 .op (some 28) none (.bslice false (.str []) 4 [(0, (.c (.str []))), (1, (.c (.str [120]))), (2, (.c (.str [0, 255]))), (3, (.c (.str [97, 32, 118, 97, 108, 117, 101, 32, 111, 102, 32, 102, 111, 114, 116, 121, 32, 98, 121, 116, 101, 115, 44, 32, 111, 114, 32, 97, 32, 102, 101, 119, 32, 98, 121, 116, 101, 115, 32, 108, 101, 115, 115])))]),
 .op (some 29) none (.mov (.t 0)),
 .op (some 7) none (.lalloc (.agg [(.str []), (.str []), (.bool false)])),
 .call (some 30) none (.fn 12) [(.t 29), (.c (.int .i64 4))],
 .chk 27 none (.load none (.t 26)),
 .chk 7 none (.lalloc (.agg [(.str []), (.str []), (.bool false)])),
 .op (some 31) none (.iaddr 1 (.t 28) (.t 30)),
 .op (some 32) none (.load none (.t 31)),
 .op (some 33) none (.build [(.str []), (.str []), (.bool false)] [(0, 1, (.t 27)), (1, 1, (.t 32))]),
 .op none none (.store 3 (.l 7) (.t 33))] []))
 (.seq (.seq (.items [.op (some 34) none (.mov (.t 0)),
 .call (some 35) none (.fn 12) [(.t 34), (.c (.int .i64 5))],
 .op (some 36) none (.bin .eql (.t 35) (.c (.int .i64 0)))] [])
 (.cond (.t 36)
 (.items [.op (some 37) none (.mov (.t 3)),
 .op (some 38) none (.mov (.t 5)),
 .op (some 39) none (.iaddr 1 (.t 37) (.t 38)),
 .op (some 40) none (.load none (.t 39)),
 .op (some 41) none (.build [(.str []), (.str []), (.bool false)] [(0, 1, (.t 40)), (2, 1, (.c (.bool true)))]),
 .op none none (.store 3 (.l 7) (.t 41))] [])
 (.skip)))
 (.seq (.items [.op (some 42) none (.mov (.t 4)),
 .op (some 43) none (.load (some 3) (.l 7)),
 .op (some 44) none (.bslice false (.agg [(.str []), (.str []), (.bool false)]) 1 [(0, (.t 43))]),
 .op (some 45) none (.append 3 true false false (.t 42) (.t 44)),
 .op (some 4) none (.mov (.t 45))] [])
 (.items [.op (some 46) none (.mov (.t 5)),
 .op (some 47) none (.bin .add (.t 46) (.c (.int .i64 1))),
 .op (some 48) none (.mov (.t 0)),
 .call (some 49) none (.fn 12) [(.t 48), (.c (.int .i64 3))],
 .op (some 50) none (.bin .add (.t 47) (.t 49)),
 .op (some 5) none (.mov (.t 50))] [])))))
 (.items [.op (some 22) none (.mov (.t 6)),
 .op (some 23) none (.bin .sub (.t 22) (.c (.int .i64 1))),
 .op (some 6) none (.mov (.t 23))] []))))))
 (.seq (.items [.op (some 51) none (.mov (.t 4)),
 .op (some 2) none (.mov (.t 51))] [])
 (.ret)))))),
 [.tmp 2], 1, false, false⟩
def a22 : Ann := { prom := [7], base := [], hps := [], frz := [], keepArgs := false, keepRes := false, ntmps := 52 }

/-- (*lapstone/lapstonetop.wholeJudge).says -/
def i23 : IRFn :=
 ⟨.seq (.seq (.items [] [10])
 (.items [.op (some 10) none (.lalloc (.agg [(.int .u64 0), (.int .i64 0)]))] []))
 (.seq (.seq (.items [.op (some 14) none (.mov (.t 4)),
 .op (some 15) none (.lenV (.t 14)),
 .op (some 16) none (.bin .eql (.t 15) (.c (.int .i64 0)))] [])
 (.cond (.t 16)
 (.seq (.items [.op (some 17) none (.build [(.int .u64 0), (.int .i64 0)] [(1, 1, (.c (.int .i64 50)))]),
 .op none none (.store 2 (.l 10) (.t 17))] [])
 (.ret))
 (.skip)))
 (.seq (.items [.op (some 19) none (.mov (.t 0)),
 .op (some 20) none (.nilchk (.t 19)),
 .op (some 21) none (.faddr 1 (.t 20)),
 .op (some 22) none (.load none (.t 21)),
 .op (some 23) none (.mov (.t 1)),
 .op (some 24) none (.lookup 0 (.int .i64 0) true (.t 22) (.t 23)),
 .op (some 18) none (.mov (.t 24)),
 .op (some 25) none (.extract (.t 18) 0),
 .op (some 26) none (.extract (.t 18) 1),
 .op (some 11) none (.mov (.t 25)),
 .op (some 12) none (.mov (.t 26))] [])
 (.seq (.seq (.items [.op (some 27) none (.mov (.t 12)),
 .op (some 28) none (.mov (.t 27)),
 .op (some 29) (some (28, true)) (.mov (.t 2)),
 .op (some 30) (some (28, true)) (.mov (.t 11)),
 .op (some 31) (some (28, true)) (.bin .eql (.t 29) (.t 30)),
 .op (some 32) none (.pick (.t 28) (.t 31) (.c (.bool false)))] [])
 (.cond (.t 32)
 (.seq (.items [.op (some 33) none (.mov (.t 0)),
 .op (some 34) none (.nilchk (.t 33)),
 .op (some 35) none (.faddr 2 (.t 34)),
 .op (some 36) none (.load none (.t 35)),
 .op (some 37) none (.mov (.t 1)),
 .op (some 38) none (.lookup 0 (.agg [(.int .u64 0), (.int .i64 0)]) false (.t 36) (.t 37)),
 .op none none (.store 2 (.l 10) (.t 38))] [])
 (.ret))
 (.skip)))
 (.seq (.block 0
 (.seq (.items [.op (some 40) none (.mov (.t 12)),
 .op (some 41) none (.mov (.t 40)),
 .op (some 42) (some (41, true)) (.mov (.t 2)),
 .op (some 43) (some (41, true)) (.mov (.t 11)),
 .op (some 44) (some (41, true)) (.bin .lss (.t 42) (.t 43)),
 .op (some 45) none (.pick (.t 41) (.t 44) (.c (.bool false))),
 .op (some 39) none (.mov (.t 45))] [])
 (.cond (.t 39)
 (.seq (.items [.op (some 46) none (.build [(.int .u64 0), (.int .i64 0)] [(1, 1, (.c (.int .i64 193)))]),
 .op none none (.store 2 (.l 10) (.t 46))] [])
 (.ret))
 (.seq (.items [.op (some 48) none (.mov (.t 3)),
 .op (some 49) none (.mov (.t 0)),
 .op (some 50) none (.nilchk (.t 49)),
 .op (some 51) none (.faddr 0 (.t 50)),
 .call (some 52) none (.fn 11) [(.t 51)],
 .op (some 53) none (.bin .gtr (.t 48) (.t 52)),
 .op (some 47) none (.mov (.t 53))] [])
 (.cond (.t 47)
 (.seq (.items [.op (some 54) none (.build [(.int .u64 0), (.int .i64 0)] [(1, 1, (.c (.int .i64 190)))]),
 .op none none (.store 2 (.l 10) (.t 54))] [])
 (.ret))
 (.skip))))))
 (.seq (.seq (.items [] [13])
 (.items [.op (some 55) none (.build [(.int .u64 0), (.int .i64 0)] [(1, 1, (.c (.int .i64 191)))]),
 .op (some 13) none (.lalloc (.agg [(.int .u64 0), (.int .i64 0)])),
 .op none none (.store 2 (.l 13) (.t 55))] []))
 (.seq (.seq (.items [.op (some 56) none (.mov (.t 0)),
 .op (some 57) none (.nilchk (.t 56)),
 .op (some 58) none (.faddr 0 (.t 57)),
 .op (some 59) none (.mov (.t 4)),
 .op (some 60) none (.mov (.t 3)),
 .call (some 61) none (.fn 53) [(.t 58), (.t 59), (.t 60)],
 .op (some 62) none (.un .not (.t 61))] [])
 (.cond (.t 62)
 (.seq (.items [.op (some 63) none (.mov (.t 0)),
 .op (some 64) none (.mov (.t 0)),
 .op (some 65) none (.nilchk (.t 64)),
 .op (some 66) none (.faddr 0 (.t 65)),
 .op (some 67) none (.faddr 0 (.t 66)),
 .op (some 68) none (.load none (.t 67)),
 .op (some 69) none (.mov (.t 4)),
 .op (some 70) none (.bslice false .nils 1 [(0, (.t 69))]),
 .op (some 71) none (.append 1 false false false (.t 68) (.t 70)),
 .op (some 72) none (.nilchk (.t 63)),
 .op (some 73) none (.faddr 0 (.t 72)),
 .op (some 74) none (.faddr 0 (.t 73)),
 .op none none (.store 1 (.t 74) (.t 71))] [])
 (.items [.op (some 75) none (.mov (.t 0)),
 .op (some 76) none (.nilchk (.t 75)),
 .op (some 77) none (.faddr 0 (.t 76)),
 .call (some 78) none (.fn 11) [(.t 77)],
 .op (some 79) none (.cvI .u64 (.t 78)),
 .op (some 80) none (.build [(.int .u64 0), (.int .i64 0)] [(0, 1, (.t 79))]),
 .op none none (.store 2 (.l 13) (.t 80))] []))
 (.skip)))
 (.seq (.items [.op (some 81) none (.mov (.t 0)),
 .op (some 82) none (.nilchk (.t 81)),
 .op (some 83) none (.faddr 1 (.t 82)),
 .op (some 84) none (.load none (.t 83)),
 .op (some 85) none (.mov (.t 1)),
 .op (some 86) none (.mov (.t 2)),
 .op none none (.mupd 0 (.t 84) (.t 85) (.t 86))] [])
 (.seq (.items [.op (some 87) none (.mov (.t 0)),
 .op (some 88) none (.nilchk (.t 87)),
 .op (some 89) none (.faddr 2 (.t 88)),
 .op (some 90) none (.load none (.t 89)),
 .op (some 91) none (.mov (.t 1)),
 .op (some 92) none (.load (some 2) (.l 13)),
 .op none none (.mupd 0 (.t 90) (.t 91) (.t 92))] [])
 (.seq (.items [.op (some 93) none (.load (some 2) (.l 13)),
 .op none none (.store 2 (.l 10) (.t 93))] [])
 (.ret)))))))))),
 [.loc 10 (some 2)], 5, false, false⟩
def a23 : Ann := { prom := [10, 13], base := [], hps := [], frz := [], keepArgs := false, keepRes := false, ntmps := 94 }

/-- lapstone/batch.Check -/
def i24 : IRFn :=
 ⟨.seq (.seq (.items [] [1])
 (.items [.op (some 1) none (.lbox (.t 0)),
 .op (some 2) none (.mov (.c (.int .i64 0)))] []))
 (.seq (.block 0
 (.seq (.items [.op (some 7) none (.faddr 3 (.l 1)),
 .op (some 8) none (.load none (.s 7 1)),
 .op (some 9) none (.lenV (.t 8)),
 .op (some 10) none (.bin .eql (.t 9) (.c (.int .i64 0))),
 .op (some 6) none (.mov (.t 10))] [7])
 (.cond (.t 6)
 (.seq (.items [.op (some 2) none (.mov (.c (.int .i64 50)))] [])
 (.ret))
 (.seq (.items [.op (some 12) none (.faddr 3 (.l 1)),
 .op (some 13) none (.load none (.s 12 1)),
 .op (some 14) none (.lenV (.t 13)),
 .op (some 15) none (.bin .gtr (.t 14) (.c (.int .i64 8))),
 .op (some 11) none (.mov (.t 15))] [12])
 (.cond (.t 11)
 (.seq (.items [.op (some 2) none (.mov (.c (.int .i64 51)))] [])
 (.ret))
 (.skip))))))
 (.seq (.seq (.items [.op (some 16) none (.faddr 3 (.l 1)),
 .op (some 17) none (.load none (.s 16 1)),
 .op (some 18) none (.lenV (.t 17)),
 .op (some 19) none (.mov (.c (.int .i64 0)))] [16])
 (.block 1
 (.loop
 (.seq (.items [.op (some 20) none (.bin .lss (.t 19) (.t 18))] [])
 (.seq (.cond (.t 20)
 (.skip)
 (.exit 1))
 (.seq (.block 2
 (.seq (.seq (.items [] [4])
 (.items [.op (some 21) none (.mov (.t 19)),
 .op (some 22) none (.iaddr 3 (.t 17) (.t 19)),
 .op (some 23) none (.load (some 3) (.t 22)),
 .op (some 4) none (.lalloc (.agg [(.str []), (.str []), (.bool false)])),
 .op (some 3) none (.mov (.t 21)),
 .op none none (.store 3 (.l 4) (.t 23))] []))
 (.seq (.seq (.items [.op (some 24) none (.load (some 3) (.l 4)),
 .call (some 25) none (.fn 54) [(.t 24)],
 .op (some 5) none (.mov (.t 25))] [])
 (.seq (.items [.op (some 26) none (.mov (.t 5)),
 .op (some 27) none (.bin .neq (.t 26) (.c (.int .i64 0)))] [])
 (.cond (.t 27)
 (.seq (.items [.op (some 28) none (.mov (.t 5)),
 .op (some 2) none (.mov (.t 28))] [])
 (.ret))
 (.skip))))
 (.seq (.items [.op (some 29) none (.mov (.t 3)),
 .op (some 30) none (.bin .gtr (.t 29) (.c (.int .i64 0))),
 .op (some 31) none (.mov (.t 30)),
 .op (some 32) (some (31, true)) (.faddr 3 (.l 1)),
 .op (some 33) (some (31, true)) (.load none (.s 32 1)),
 .op (some 34) (some (31, true)) (.mov (.t 3)),
 .op (some 35) (some (31, true)) (.bin .sub (.t 34) (.c (.int .i64 1))),
 .op (some 36) (some (31, true)) (.iaddr 3 (.t 33) (.t 35)),
 .op (some 37) (some (31, true)) (.faddr 0 (.t 36)),
 .op (some 38) (some (31, true)) (.load none (.t 37)),
 .op (some 39) (some (31, true)) (.faddr 0 (.l 4)),
 .op (some 40) (some (31, true)) (.load none (.s 39 4)),
 .op (some 41) (some (31, true)) (.bin .geq (.t 38) (.t 40)),
 .op (some 42) none (.pick (.t 31) (.t 41) (.c (.bool false)))] [32, 39])
 (.cond (.t 42)
 (.seq (.items [.op (some 2) none (.mov (.c (.int .i64 54)))] [])
 (.ret))
 (.skip))))))
 (.items [.op (some 43) none (.bin .add (.t 19) (.c (.int .i64 1))),
 .op (some 19) none (.mov (.t 43))] [])))))))
 (.seq (.items [.op (some 2) none (.mov (.c (.int .i64 0)))] [])
 (.ret)))),
 [.tmp 2], 1, false, false⟩
def a24 : Ann := { prom := [1, 4], base := [(7, 1), (12, 1), (16, 1), (32, 1), (39, 4)], hps := [], frz := [], keepArgs := false, keepRes := false, ntmps := 44 }

/-- (*lapstone/judge.Judge).Say$1 -/
def i25 : IRFn :=
 ⟨.seq (.items [.op (some 3) none (.mov (.c (.bool false)))] [])
 (.seq (.items [.op (some 4) none (.load none (.t 0)),
 .op (some 5) none (.mov (.t 4)),
 .op (some 6) (some (5, true)) (.faddr 1 (.t 1)),
 .op (some 7) (some (5, true)) (.load none (.t 6)),
 .op (some 8) (some (5, true)) (.faddr 0 (.t 2)),
 .op (some 9) (some (5, true)) (.load none (.t 8)),
 .op (some 10) (some (5, true)) (.bin .lss (.t 7) (.t 9)),
 .op (some 11) none (.pick (.t 5) (.t 10) (.c (.bool false))),
 .op (some 3) none (.mov (.t 11))] [])
 (.ret)),
 [.tmp 3], 3, false, false⟩
def a25 : Ann := { prom := [], base := [], hps := [], frz := [], keepArgs := false, keepRes := false, ntmps := 12 }

/-- (*lapstone/judge.Judge).Say$2 -/
def i26 : IRFn :=
 ⟨.seq (.items [.op (some 2) none (.mov (.c (.bool false)))] [])
 (.seq (.items [.op (some 3) none (.faddr 2 (.t 0)),
 .op (some 4) none (.load none (.t 3)),
 .op (some 5) none (.load none (.t 1)),
 .op (some 6) none (.nilchk (.t 5)),
 .op (some 7) none (.faddr 0 (.t 6)),
 .op (some 8) none (.load none (.t 7)),
 .op (some 9) none (.bin .gtr (.t 4) (.t 8)),
 .op (some 2) none (.mov (.t 9))] [])
 (.ret)),
 [.tmp 2], 2, false, false⟩
def a26 : Ann := { prom := [], base := [], hps := [], frz := [], keepArgs := false, keepRes := false, ntmps := 10 }

/-- (*lapstone/judge.Judge).Say$3 -/
def i27 : IRFn :=
 ⟨.seq (.items [.op (some 1) none (.mov (.c (.bool false)))] [])
 (.seq (.items [.op (some 2) none (.load none (.t 0)),
 .op (some 3) none (.nilchk (.t 2)),
 .op (some 4) none (.faddr 0 (.t 3)),
 .op (some 5) none (.load none (.t 4)),
 .op (some 6) none (.bin .geq (.t 5) (.c (.int .u64 9223372036854775807))),
 .op (some 1) none (.mov (.t 6))] [])
 (.ret)),
 [.tmp 1], 1, false, false⟩
def a27 : Ann := { prom := [], base := [], hps := [], frz := [], keepArgs := false, keepRes := false, ntmps := 7 }

/-- (*lapstone/judge.Judge).written -/
def i28 : IRFn :=
 ⟨.seq (.seq (.items [] [3])
 (.items [.op (some 3) none (.lbox (.t 1)),
 .op (some 4) none (.mov (.c (.bool false)))] []))
 (.seq (.seq (.items [.op (some 7) none (.faddr 3 (.l 3)),
 .op (some 8) none (.load none (.s 7 3)),
 .op (some 9) none (.lenV (.t 8)),
 .op (some 10) none (.mov (.c (.int .i64 0)))] [7])
 (.block 0
 (.loop
 (.seq (.items [.op (some 11) none (.bin .lss (.t 10) (.t 9))] [])
 (.seq (.cond (.t 11)
 (.skip)
 (.exit 0))
 (.seq (.block 1
 (.seq (.seq (.items [] [6])
 (.items [.op (some 12) none (.iaddr 3 (.t 8) (.t 10)),
 .op (some 13) none (.load (some 3) (.t 12)),
 .op (some 6) none (.lalloc (.agg [(.str []), (.str []), (.bool false)])),
 .op none none (.store 3 (.l 6) (.t 13))] []))
 (.seq (.items [.op (some 14) none (.mov (.t 0)),
 .op (some 15) none (.nilchk (.t 14)),
 .op (some 16) none (.faddr 1 (.t 15)),
 .op (some 17) none (.load none (.t 16)),
 .op (some 18) none (.faddr 0 (.l 6)),
 .op (some 19) none (.load none (.s 18 6)),
 .op (some 20) none (.lookup 1 (.int .u64 0) false (.t 17) (.t 19)),
 .op (some 21) none (.faddr 2 (.l 3)),
 .op (some 22) none (.load none (.s 21 3)),
 .op (some 23) none (.bin .gtr (.t 20) (.t 22))] [18, 21])
 (.cond (.t 23)
 (.seq (.items [.op (some 4) none (.mov (.c (.bool true)))] [])
 (.ret))
 (.skip)))))
 (.items [.op (some 24) none (.bin .add (.t 10) (.c (.int .i64 1))),
 .op (some 10) none (.mov (.t 24))] [])))))))
 (.seq (.items [.op (some 4) none (.mov (.c (.bool false)))] [])
 (.ret))),
 [.tmp 4], 2, false, false⟩
def a28 : Ann := { prom := [3, 6], base := [(7, 3), (18, 6), (21, 3)], hps := [], frz := [], keepArgs := false, keepRes := false, ntmps := 25 }

/-- (*lapstone/judge.Judge).commit -/
def i29 : IRFn :=
 ⟨.seq (.seq (.items [] [3])
 (.items [.op (some 3) none (.lbox (.t 1)),
 .op (some 4) none (.mov (.c (.int .u64 0)))] []))
 (.seq (.items [.op (some 7) none (.mov (.t 0)),
 .op (some 8) none (.nilchk (.t 7)),
 .op (some 9) none (.faddr 0 (.t 8)),
 .op (some 10) none (.load none (.t 9)),
 .op (some 11) none (.bin .add (.t 10) (.c (.int .u64 1))),
 .op (some 12) none (.nilchk (.t 7)),
 .op (some 13) none (.faddr 0 (.t 12)),
 .op none none (.store 1 (.t 13) (.t 11))] [])
 (.seq (.seq (.items [.op (some 14) none (.faddr 3 (.l 3)),
 .op (some 15) none (.load none (.s 14 3)),
 .op (some 16) none (.lenV (.t 15)),
 .op (some 17) none (.mov (.c (.int .i64 0)))] [14])
 (.block 0
 (.loop
 (.seq (.items [.op (some 18) none (.bin .lss (.t 17) (.t 16))] [])
 (.seq (.cond (.t 18)
 (.skip)
 (.exit 0))
 (.seq (.block 1
 (.seq (.seq (.items [] [6])
 (.items [.op (some 19) none (.iaddr 3 (.t 15) (.t 17)),
 .op (some 20) none (.load (some 3) (.t 19)),
 .op (some 6) none (.lalloc (.agg [(.str []), (.str []), (.bool false)])),
 .op none none (.store 3 (.l 6) (.t 20))] []))
 (.items [.op (some 21) none (.mov (.t 0)),
 .op (some 22) none (.nilchk (.t 21)),
 .op (some 23) none (.faddr 1 (.t 22)),
 .op (some 24) none (.load none (.t 23)),
 .op (some 25) none (.faddr 0 (.l 6)),
 .op (some 26) none (.load none (.s 25 6)),
 .op (some 27) none (.mov (.t 0)),
 .op (some 28) none (.nilchk (.t 27)),
 .op (some 29) none (.faddr 0 (.t 28)),
 .op (some 30) none (.load none (.t 29)),
 .op none none (.mupd 1 (.t 24) (.t 26) (.t 30))] [25])))
 (.items [.op (some 31) none (.bin .add (.t 17) (.c (.int .i64 1))),
 .op (some 17) none (.mov (.t 31))] [])))))))
 (.seq (.items [.op (some 32) none (.mov (.t 0)),
 .op (some 33) none (.nilchk (.t 32)),
 .op (some 34) none (.faddr 0 (.t 33)),
 .op (some 35) none (.load none (.t 34)),
 .op (some 4) none (.mov (.t 35))] [])
 (.ret)))),
 [.tmp 4], 2, false, false⟩
def a29 : Ann := { prom := [3, 6], base := [(14, 3), (25, 6)], hps := [], frz := [], keepArgs := false, keepRes := false, ntmps := 36 }

/-- lapstone/lapstonetop.wholePick -/
def i30 : IRFn :=
 ⟨.seq (.items [.op (some 4) none (.mov (.c (.int .i64 0)))] [])
 (.seq (.items [.op (some 5) none (.mov (.t 0)),
 .op (some 6) none (.mov (.t 1)),
 .op (some 7) none (.bin .rem (.t 5) (.t 6)),
 .op (some 0) none (.mov (.t 7))] [])
 (.seq (.seq (.items [.op (some 8) none (.mov (.t 0)),
 .op (some 9) none (.bin .lss (.t 8) (.c (.int .i64 0)))] [])
 (.cond (.t 9)
 (.items [.op (some 10) none (.mov (.t 0)),
 .op (some 11) none (.mov (.t 1)),
 .op (some 12) none (.bin .add (.t 10) (.t 11)),
 .op (some 0) none (.mov (.t 12))] [])
 (.skip)))
 (.seq (.items [.op (some 13) none (.mov (.t 0)),
 .op (some 4) none (.mov (.t 13))] [])
 (.ret)))),
 [.tmp 4], 2, false, false⟩
def a30 : Ann := { prom := [], base := [], hps := [], frz := [], keepArgs := false, keepRes := false, ntmps := 14 }

/-- lapstone/disk.New -/
def i31 : IRFn :=
 ⟨.seq (.items [.op (some 2) none (.mov (.c .nilp)),
 .op (some 3) none (.mov (.c (.int .i64 0)))] [])
 (.seq (.seq (.items [.op (some 4) none (.mov (.t 0)),
 .op (some 5) none (.bin .lss (.t 4) (.c (.int .i64 1))),
 .op (some 6) none (.mov (.t 5)),
 .op (some 7) (some (6, false)) (.mov (.t 0)),
 .op (some 8) (some (6, false)) (.bin .gtr (.t 7) (.c (.int .i64 65536))),
 .op (some 9) none (.pick (.t 6) (.c (.bool true)) (.t 8))] [])
 (.cond (.t 9)
 (.seq (.items [.op (some 2) none (.mov (.c .nilp)),
 .op (some 3) none (.mov (.c (.int .i64 60)))] [])
 (.ret))
 (.skip)))
 (.seq (.items [.op (some 10) none (.mov (.t 0)),
 .op (some 11) none (.mov (.t 0)),
 .op (some 12) none .mkmap,
 .op (some 13) none .mkmap,
 .op (some 14) none (.build [(.int .i64 0), (.int .i64 0), .nilm, .nilm, .nils] [(0, 1, (.t 10)), (1, 1, (.t 11)), (2, 1, (.t 12)), (3, 1, (.t 13))]),
 .op (some 15) none (.hbox (.t 14)),
 .op (some 2) none (.mov (.t 15)),
 .op (some 3) none (.mov (.c (.int .i64 0)))] [])
 (.ret))),
 [.tmp 2, .tmp 3], 1, false, false⟩
def a31 : Ann := { prom := [], base := [], hps := [], frz := [], keepArgs := false, keepRes := false, ntmps := 16 }

/-- lapstone/view.told -/
def i32 : IRFn :=
 ⟨.seq (.seq (.items [] [4])
 (.items [.op (some 4) none (.lalloc (.agg [(.str []), (.str []), (.bool false)]))] []))
 (.seq (.items [.call (some 8) none (.fn 55) [],
 .op (some 5) none (.mov (.t 8))] [])
 (.seq (.items [.op (some 9) none (.mov (.t 5)),
 .op (some 10) none (.mov (.t 0)),
 .op (some 11) none (.mov (.t 1)),
 .op (some 12) none (.bslice false (.int .u64 0) 2 [(0, (.t 10)), (1, (.t 11))]),
 .call (some 13) none (.fn 56) [(.t 9), (.t 12)]] [])
 (.seq (.items [.op (some 15) none (.mov (.t 5)),
 .call (some 16) none (.fn 57) [(.t 15)],
 .op (some 14) none (.mov (.t 16)),
 .op (some 17) none (.extract (.t 14) 0),
 .op (some 18) none (.extract (.t 14) 1),
 .op (some 6) none (.mov (.t 17)),
 .op (some 7) none (.mov (.t 18))] [])
 (.seq (.items [.op (some 19) none (.mov (.t 6)),
 .op (some 20) none (.cvS (.t 19)),
 .op (some 21) none (.build [(.str []), (.str []), (.bool false)] [(0, 1, (.c (.str [109]))), (1, 1, (.t 20))]),
 .op none none (.store 3 (.l 4) (.t 21))] [])
 (.ret))))),
 [.loc 4 (some 3)], 2, false, false⟩
def a32 : Ann := { prom := [4], base := [], hps := [], frz := [], keepArgs := false, keepRes := false, ntmps := 22 }

/-- lapstone/view.bytes -/
def i33 : IRFn :=
 ⟨.seq (.items [.op (some 4) none (.mov (.c (.str [])))] [])
 (.seq (.items [.op (some 8) none (.mov (.t 0)),
 .op (some 9) none (.mov (.t 1)),
 .call (some 10) none (.fn 58) [(.t 8), (.t 9)],
 .op (some 7) none (.mov (.t 10)),
 .op (some 11) none (.extract (.t 7) 0),
 .op (some 12) none (.extract (.t 7) 1),
 .op (some 5) none (.mov (.t 11)),
 .op (some 6) none (.mov (.t 12))] [])
 (.seq (.items [.op (some 13) none (.mov (.t 5)),
 .op (some 14) none (.cvS (.t 13)),
 .op (some 15) none (.bin .add (.c (.str [100])) (.t 14)),
 .op (some 4) none (.mov (.t 15))] [])
 (.ret))),
 [.tmp 4], 2, false, false⟩
def a33 : Ann := { prom := [], base := [], hps := [], frz := [], keepArgs := false, keepRes := false, ntmps := 16 }

/-- lapstone/view.show -/
def i34 : IRFn :=
 ⟨.seq (.seq (.items [] [1])
 (.items [.op (some 1) none (.lbox (.t 0)),
 .op (some 2) none (.mov (.c (.str [])))] []))
 (.seq (.seq (.items [.op (some 3) none (.faddr 2 (.l 1)),
 .op (some 4) none (.load none (.s 3 1))] [3])
 (.cond (.t 4)
 (.seq (.items [.op (some 2) none (.mov (.c (.str [1])))] [])
 (.ret))
 (.skip)))
 (.seq (.items [.op (some 5) none (.faddr 1 (.l 1)),
 .op (some 6) none (.load none (.s 5 1)),
 .op (some 7) none (.bin .add (.c (.str [0])) (.t 6)),
 .op (some 2) none (.mov (.t 7))] [5])
 (.ret))),
 [.tmp 2], 1, false, false⟩
def a34 : Ann := { prom := [1], base := [(3, 1), (5, 1)], hps := [], frz := [], keepArgs := false, keepRes := false, ntmps := 8 }

/-- (*lapstone/store.Store).Apply -/
def i35 : IRFn :=
 ⟨.seq (.items [.op (some 4) none (.mov (.c (.int .u64 0))),
 .op (some 5) none (.mov (.c (.int .i64 0)))] [])
 (.seq (.seq (.items [.op (some 9) none (.mov (.t 0)),
 .op (some 10) none (.mov (.t 1)),
 .call (some 11) none (.fn 43) [(.t 9), (.t 10)],
 .op (some 6) none (.mov (.t 11))] [])
 (.seq (.items [.op (some 12) none (.mov (.t 6)),
 .op (some 13) none (.bin .neq (.t 12) (.c (.int .i64 0)))] [])
 (.cond (.t 13)
 (.seq (.items [.op (some 14) none (.mov (.t 6)),
 .op (some 4) none (.mov (.c (.int .u64 0))),
 .op (some 5) none (.mov (.t 14))] [])
 (.ret))
 (.skip))))
 (.seq (.items [.op (some 16) none (.mov (.t 0)),
 .op (some 17) none (.nilchk (.t 16)),
 .op (some 18) none (.faddr 2 (.t 17)),
 .op (some 19) none (.load none (.t 18)),
 .op (some 20) none (.mov (.t 1)),
 .call (some 21) none (.fn 60) [(.t 20)],
 .chk 19 none (.load none (.t 18)),
 .call (some 22) none (.fn 59) [(.t 19), (.t 21)],
 .op (some 15) none (.mov (.t 22)),
 .op (some 23) none (.extract (.t 15) 0),
 .op (some 24) none (.extract (.t 15) 1),
 .op (some 7) none (.mov (.t 23)),
 .op (some 8) none (.mov (.t 24))] [])
 (.seq (.seq (.items [.op (some 25) none (.mov (.t 8)),
 .op (some 26) none (.bin .neq (.t 25) (.c (.int .i64 0)))] [])
 (.cond (.t 26)
 (.seq (.items [.op (some 27) none (.mov (.t 8)),
 .op (some 4) none (.mov (.c (.int .u64 0))),
 .op (some 5) none (.mov (.t 27))] [])
 (.ret))
 (.skip)))
 (.seq (.items [.op (some 28) none (.mov (.t 0)),
 .op (some 29) none (.mov (.t 1)),
 .call (some 30) none (.fn 44) [(.t 28), (.t 29)]] [])
 (.seq (.items [.op (some 31) none (.mov (.t 7)),
 .op (some 4) none (.mov (.t 31)),
 .op (some 5) none (.mov (.c (.int .i64 0)))] [])
 (.ret)))))),
 [.tmp 4, .tmp 5], 2, false, false⟩
def a35 : Ann := { prom := [], base := [], hps := [], frz := [], keepArgs := false, keepRes := false, ntmps := 32 }

/-- (*lapstone/wal.Log).Sync -/
def i36 : IRFn :=
 ⟨.seq (.items [.op (some 2) none (.mov (.t 0)),
 .op (some 3) none (.nilchk (.t 2)),
 .op (some 4) none (.faddr 0 (.t 3)),
 .op (some 5) none (.load none (.t 4)),
 .call (some 6) none (.fn 61) [(.t 5)]] [])
 (.items [.op (some 7) none (.mov (.t 0)),
 .op (some 8) none (.mov (.t 0)),
 .op (some 9) none (.nilchk (.t 8)),
 .op (some 10) none (.faddr 6 (.t 9)),
 .op (some 11) none (.load none (.t 10)),
 .op (some 12) none (.nilchk (.t 7)),
 .op (some 13) none (.faddr 7 (.t 12)),
 .op none none (.store 1 (.t 13) (.t 11))] []),
 [], 1, false, false⟩
def a36 : Ann := { prom := [], base := [], hps := [], frz := [], keepArgs := false, keepRes := false, ntmps := 14 }

/-- (lapstone/disk.sectors).copied -/
def i37 : IRFn :=
 ⟨.seq (.items [.op (some 2) none (.mov (.c .nilm))] [])
 (.seq (.items [.op (some 6) none .mkmap,
 .op (some 3) none (.mov (.t 6))] [])
 (.seq (.seq (.items [.op (some 7) none (.mov (.t 0)),
 .op (some 8) none (.rngM (.t 7))] [])
 (.block 0
 (.loop
 (.seq (.items [.nextM (some 9) none (.t 8),
 .op (some 10) none (.extract (.t 9) 0)] [])
 (.seq (.cond (.t 10)
 (.skip)
 (.exit 0))
 (.block 1
 (.seq (.items [.op (some 11) none (.entry (.t 8)),
 .op (some 12) none (.extract (.t 11) 0),
 .op (some 13) none (.extract (.t 11) 1),
 .op (some 4) none (.mov (.t 12)),
 .op (some 5) none (.mov (.t 13))] [])
 (.items [.op (some 14) none (.mov (.t 3)),
 .op (some 15) none (.mov (.t 4)),
 .op (some 16) none (.bslice false (.int .u8 0) 0 []),
 .op (some 17) none (.mov (.t 5)),
 .op (some 18) none (.append 1 false false false (.t 16) (.t 17)),
 .op none none (.mupd 0 (.t 14) (.t 15) (.t 18))] []))))))))
 (.seq (.items [.op (some 19) none (.mov (.t 3)),
 .op (some 2) none (.mov (.t 19))] [])
 (.ret)))),
 [.tmp 2], 1, false, false⟩
def a37 : Ann := { prom := [], base := [], hps := [], frz := [], keepArgs := false, keepRes := false, ntmps := 20 }

/-- lapstone/pager.Open -/
def i38 : IRFn :=
 ⟨.seq (.items [.op (some 6) none (.mov (.c .nilp)),
 .op (some 7) none (.mov (.c (.int .i64 0)))] [])
 (.seq (.seq (.items [.op (some 12) none (.mov (.t 2)),
 .op (some 13) none (.bin .lss (.t 12) (.c (.int .i64 2))),
 .op (some 14) none (.mov (.t 13)),
 .op (some 15) (some (14, false)) (.mov (.t 2)),
 .op (some 16) (some (14, false)) (.bin .gtr (.t 15) (.c (.int .i64 256))),
 .op (some 17) none (.pick (.t 14) (.c (.bool true)) (.t 16)),
 .op (some 18) none (.mov (.t 17)),
 .op (some 19) (some (18, false)) (.mov (.t 1)),
 .op (some 20) (some (18, false)) (.bin .lss (.t 19) (.c (.int .i64 0))),
 .op (some 21) none (.pick (.t 18) (.c (.bool true)) (.t 20)),
 .op (some 22) none (.mov (.t 21)),
 .op (some 23) (some (22, false)) (.mov (.t 1)),
 .op (some 24) (some (22, false)) (.mov (.t 2)),
 .op (some 25) (some (22, false)) (.bin .mul (.c (.int .i64 4)) (.t 24)),
 .op (some 26) (some (22, false)) (.bin .sub (.c (.int .i64 65534)) (.t 25)),
 .op (some 27) (some (22, false)) (.bin .gtr (.t 23) (.t 26)),
 .op (some 28) none (.pick (.t 22) (.c (.bool true)) (.t 27))] [])
 (.cond (.t 28)
 (.seq (.items [.op (some 6) none (.mov (.c .nilp)),
 .op (some 7) none (.mov (.c (.int .i64 130)))] [])
 (.ret))
 (.skip)))
 (.seq (.items [.op (some 30) none (.mov (.t 0)),
 .op (some 31) none (.mov (.t 1)),
 .call (some 32) none (.fn 62) [(.t 30), (.t 31)],
 .op (some 29) none (.mov (.t 32)),
 .op (some 33) none (.extract (.t 29) 0),
 .op (some 34) none (.extract (.t 29) 1),
 .op (some 35) none (.extract (.t 29) 2),
 .op (some 8) none (.mov (.t 33)),
 .op (some 9) none (.mov (.t 34)),
 .op (some 10) none (.mov (.t 35))] [])
 (.seq (.items [.op (some 36) none (.mov (.t 0)),
 .op (some 37) none (.mov (.t 8)),
 .op (some 38) none (.mov (.t 1)),
 .op (some 39) none (.mov (.t 2)),
 .op (some 40) none .mkmap,
 .op (some 41) none .mkmap,
 .op (some 42) none .mkmap,
 .op (some 43) none (.build [.nilp, .nilp, (.int .i64 0), (.int .i64 0), (.int .u64 0), .nilm, .nilm, .nilm] [(0, 1, (.t 36)), (1, 1, (.t 37)), (2, 1, (.t 38)), (3, 1, (.t 39)), (5, 1, (.t 40)), (6, 1, (.t 41)), (7, 1, (.t 42))]),
 .op (some 44) none (.hbox (.t 43)),
 .op (some 11) none (.mov (.t 44))] [])
 (.seq (.seq (.items [.op (some 45) none (.mov (.t 10)),
 .op (some 46) none (.bin .eql (.t 45) (.c (.int .i64 0))),
 .op (some 47) none (.mov (.t 46)),
 .op (some 48) (some (47, true)) (.mov (.t 11)),
 .op (some 49) (some (47, true)) (.mov (.t 9)),
 .call (some 50) (some (47, true)) (.fn 63) [(.t 48), (.t 49)],
 .op (some 51) (some (47, true)) (.un .not (.t 50)),
 .op (some 52) none (.pick (.t 47) (.t 51) (.c (.bool false)))] [])
 (.cond (.t 52)
 (.seq (.items [.op (some 6) none (.mov (.c .nilp)),
 .op (some 7) none (.mov (.c (.int .i64 134)))] [])
 (.ret))
 (.skip)))
 (.seq (.items [.op (some 53) none (.mov (.t 11)),
 .op (some 6) none (.mov (.t 53)),
 .op (some 7) none (.mov (.c (.int .i64 0)))] [])
 (.ret)))))),
 [.tmp 6, .tmp 7], 3, false, false⟩
def a38 : Ann := { prom := [], base := [], hps := [], frz := [], keepArgs := false, keepRes := false, ntmps := 54 }

/-- lapstone/tree.Open -/
def i39 : IRFn :=
 ⟨.seq (.items [.op (some 2) none (.mov (.c .nilp)),
 .op (some 3) none (.mov (.c (.int .i64 0)))] [])
 (.seq (.items [.op (some 5) none (.mov (.t 0)),
 .op (some 6) none (.build [.nilp] [(0, 1, (.t 5))]),
 .op (some 7) none (.hbox (.t 6)),
 .op (some 4) none (.mov (.t 7))] [])
 (.seq (.seq (.items [.op (some 8) none (.mov (.t 0)),
 .call (some 9) none (.fn 64) [(.t 8)],
 .op (some 10) none (.lenV (.t 9)),
 .op (some 11) none (.bin .eql (.t 10) (.c (.int .i64 0)))] [])
 (.cond (.t 11)
 (.items [.op (some 12) none (.mov (.t 4)),
 .op (some 13) none (.build [(.bool false), (.int .i64 0), .nils] [(0, 1, (.c (.bool true)))]),
 .call (some 14) none (.fn 65) [(.t 12), (.c (.int .i64 0)), (.t 13)]] [])
 (.skip)))
 (.seq (.seq (.items [.op (some 15) none (.mov (.t 4)),
 .call (some 16) none (.fn 66) [(.t 15)],
 .op (some 17) none (.un .not (.t 16))] [])
 (.cond (.t 17)
 (.seq (.items [.op (some 2) none (.mov (.c .nilp)),
 .op (some 3) none (.mov (.c (.int .i64 142)))] [])
 (.ret))
 (.skip)))
 (.seq (.items [.op (some 18) none (.mov (.t 4)),
 .op (some 2) none (.mov (.t 18)),
 .op (some 3) none (.mov (.c (.int .i64 0)))] [])
 (.ret))))),
 [.tmp 2, .tmp 3], 1, false, false⟩
def a39 : Ann := { prom := [], base := [], hps := [], frz := [], keepArgs := false, keepRes := false, ntmps := 19 }

/-- lapstone/wal.Open -/
def i40 : IRFn :=
 ⟨.seq (.items [.op (some 10) none (.mov (.c .nilp)),
 .op (some 11) none (.mov (.c .nils)),
 .op (some 12) none (.mov (.c (.int .i64 0)))] [])
 (.seq (.seq (.items [.op (some 21) none (.mov (.t 2)),
 .op (some 22) none (.bin .lss (.t 21) (.c (.int .i64 2))),
 .op (some 23) none (.mov (.t 22)),
 .op (some 24) (some (23, false)) (.mov (.t 2)),
 .op (some 25) (some (23, false)) (.bin .gtr (.t 24) (.c (.int .i64 64))),
 .op (some 26) none (.pick (.t 23) (.c (.bool true)) (.t 25)),
 .op (some 27) none (.mov (.t 26)),
 .op (some 28) (some (27, false)) (.mov (.t 3)),
 .op (some 29) (some (27, false)) (.bin .lss (.t 28) (.c (.int .i64 1))),
 .op (some 30) none (.pick (.t 27) (.c (.bool true)) (.t 29)),
 .op (some 31) none (.mov (.t 30)),
 .op (some 32) (some (31, false)) (.mov (.t 3)),
 .op (some 33) (some (31, false)) (.bin .gtr (.t 32) (.c (.int .i64 64))),
 .op (some 34) none (.pick (.t 31) (.c (.bool true)) (.t 33)),
 .op (some 35) none (.mov (.t 34)),
 .op (some 36) (some (35, false)) (.mov (.t 1)),
 .op (some 37) (some (35, false)) (.bin .lss (.t 36) (.c (.int .i64 0))),
 .op (some 38) none (.pick (.t 35) (.c (.bool true)) (.t 37)),
 .op (some 39) none (.mov (.t 38)),
 .op (some 40) (some (39, false)) (.mov (.t 1)),
 .op (some 41) (some (39, false)) (.mov (.t 2)),
 .op (some 42) (some (39, false)) (.mov (.t 3)),
 .op (some 43) (some (39, false)) (.bin .mul (.t 41) (.t 42)),
 .op (some 44) (some (39, false)) (.bin .sub (.c (.int .i64 65536)) (.t 43)),
 .op (some 45) (some (39, false)) (.bin .gtr (.t 40) (.t 44)),
 .op (some 46) none (.pick (.t 39) (.c (.bool true)) (.t 45))] [])
 (.cond (.t 46)
 (.seq (.items [.op (some 10) none (.mov (.c .nilp)),
 .op (some 11) none (.mov (.c .nils)),
 .op (some 12) none (.mov (.c (.int .i64 80)))] [])
 (.ret))
 (.skip)))
 (.seq (.items [.op (some 47) none (.mov (.t 0)),
 .op (some 48) none (.mov (.t 1)),
 .op (some 49) none (.mov (.t 2)),
 .op (some 50) none (.mov (.t 3)),
 .op (some 51) none (.mov (.t 4)),
 .op (some 52) none (.build [.nilp, (.int .i64 0), (.int .i64 0), (.int .i64 0), .nils, .nils, (.int .u64 0), (.int .u64 0)] [(0, 1, (.t 47)), (1, 1, (.t 48)), (2, 1, (.t 49)), (3, 1, (.t 50)), (6, 1, (.t 51))]),
 .op (some 53) none (.hbox (.t 52)),
 .op (some 13) none (.halloc [.nilp]),
 .op none none (.store 1 (.t 13) (.t 53))] [])
 (.seq (.items [.op (some 54) none (.load none (.t 13)),
 .call (some 55) none (.fn 67) [(.t 54)],
 .op (some 14) none (.mov (.t 55))] [])
 (.seq (.items [.op (some 15) none (.mov (.c (.int .i64 (-1))))] [])
 (.seq (.seq (.items [.op (some 56) none (.mov (.t 14)),
 .op (some 57) none (.lenV (.t 56)),
 .op (some 58) none (.mov (.c (.int .i64 0)))] [])
 (.block 0
 (.loop
 (.seq (.items [.op (some 59) none (.bin .lss (.t 58) (.t 57))] [])
 (.seq (.cond (.t 59)
 (.skip)
 (.exit 0))
 (.seq (.block 1
 (.seq (.seq (.items [] [17])
 (.items [.op (some 60) none (.mov (.t 58)),
 .op (some 61) none (.iaddr 4 (.t 56) (.t 58)),
 .op (some 62) none (.load (some 4) (.t 61)),
 .op (some 17) none (.lalloc (.agg [(.int .i64 0), (.int .u64 0), (.int .u64 0), .nils])),
 .op (some 16) none (.mov (.t 60)),
 .op none none (.store 4 (.l 17) (.t 62))] []))
 (.seq (.items [.op (some 63) none (.faddr 0 (.l 17)),
 .op (some 64) none (.faddr 1 (.s 63 17)),
 .op (some 65) none (.load none (.s 64 17)),
 .op (some 66) none (.mov (.t 4)),
 .op (some 67) none (.bin .add (.t 66) (.c (.int .u64 1))),
 .op (some 68) none (.bin .leq (.t 65) (.t 67)),
 .op (some 69) none (.mov (.t 68)),
 .op (some 70) (some (69, true)) (.faddr 0 (.l 17)),
 .op (some 71) (some (69, true)) (.faddr 1 (.s 70 17)),
 .op (some 72) (some (69, true)) (.load none (.s 71 17)),
 .op (some 73) (some (69, true)) (.faddr 0 (.l 17)),
 .op (some 74) (some (69, true)) (.faddr 2 (.s 73 17)),
 .op (some 75) (some (69, true)) (.load none (.s 74 17)),
 .op (some 76) (some (69, true)) (.bin .add (.t 72) (.t 75)),
 .op (some 77) (some (69, true)) (.mov (.t 4)),
 .op (some 78) (some (69, true)) (.bin .add (.t 77) (.c (.int .u64 1))),
 .op (some 79) (some (69, true)) (.bin .geq (.t 76) (.t 78)),
 .op (some 80) none (.pick (.t 69) (.t 79) (.c (.bool false))),
 .op (some 81) none (.mov (.t 80)),
 .op (some 82) (some (81, true)) (.mov (.t 15)),
 .op (some 83) (some (81, true)) (.bin .lss (.t 82) (.c (.int .i64 0))),
 .op (some 84) (some (81, true)) (.mov (.t 83)),
 .op (some 85) (some (84, false)) (.faddr 0 (.l 17)),
 .op (some 86) (some (84, false)) (.faddr 1 (.s 85 17)),
 .op (some 87) (some (84, false)) (.load none (.s 86 17)),
 .op (some 88) (some (84, false)) (.mov (.t 14)),
 .op (some 89) (some (84, false)) (.mov (.t 15)),
 .op (some 90) (some (84, false)) (.iaddr 4 (.t 88) (.t 89)),
 .op (some 91) (some (84, false)) (.faddr 0 (.t 90)),
 .op (some 92) (some (84, false)) (.faddr 1 (.t 91)),
 .op (some 93) (some (84, false)) (.load none (.t 92)),
 .op (some 94) (some (84, false)) (.bin .gtr (.t 87) (.t 93)),
 .op (some 95) (some (81, true)) (.pick (.t 84) (.c (.bool true)) (.t 94)),
 .op (some 96) none (.pick (.t 81) (.t 95) (.c (.bool false)))] [63, 64, 70, 71, 73, 74, 85, 86])
 (.cond (.t 96)
 (.items [.op (some 97) none (.mov (.t 16)),
 .op (some 15) none (.mov (.t 97))] [])
 (.skip)))))
 (.items [.op (some 98) none (.bin .add (.t 58) (.c (.int .i64 1))),
 .op (some 58) none (.mov (.t 98))] [])))))))
 (.seq (.items [.op (some 18) none (.mov (.c .nils))] [])
 (.seq (.seq (.items [.op (some 99) none (.mov (.t 15)),
 .op (some 19) none (.mov (.t 99))] [])
 (.block 2
 (.loop
 (.seq (.seq (.items [.op (some 100) none (.mov (.t 19)),
 .op (some 101) none (.bin .geq (.t 100) (.c (.int .i64 0)))] [])
 (.cond (.t 101)
 (.skip)
 (.exit 2)))
 (.block 3
 (.seq (.items [.op (some 102) none (.mov (.t 18)),
 .op (some 103) none (.load none (.t 13)),
 .op (some 104) none (.mov (.t 14)),
 .op (some 105) none (.mov (.t 19)),
 .op (some 106) none (.iaddr 4 (.t 104) (.t 105)),
 .op (some 107) none (.load (some 4) (.t 106)),
 .op (some 108) none (.mov (.t 4)),
 .call (some 109) none (.fn 68) [(.t 103), (.t 107), (.t 108)],
 .op (some 110) none (.append 2 true false false (.t 102) (.t 109)),
 .op (some 18) none (.mov (.t 110))] [])
 (.items [.op (some 111) none (.mov (.t 14)),
 .op (some 112) none (.mkfn (.func 70) [] [(.t 13)]),
 .call (some 113) none (.fn 69) [(.t 111), (.t 112)],
 .op (some 19) none (.mov (.t 113))] [])))))))
 (.seq (.seq (.items [.op (some 114) none (.load none (.t 13)),
 .op (some 115) none (.nilchk (.t 114)),
 .op (some 116) none (.faddr 2 (.t 115)),
 .op (some 117) none (.load none (.t 116)),
 .op (some 118) none (.mov (.c (.int .i64 0)))] [])
 (.block 4
 (.loop
 (.seq (.items [.op (some 119) none (.bin .lss (.t 118) (.t 117))] [])
 (.seq (.cond (.t 119)
 (.skip)
 (.exit 4))
 (.seq (.block 5
 (.seq (.items [.op (some 120) none (.mov (.t 118)),
 .op (some 20) none (.mov (.t 120))] [])
 (.seq (.items [.op (some 121) none (.load none (.t 13)),
 .op (some 122) none (.mov (.t 20)),
 .call (some 123) none (.fn 71) [(.t 121), (.t 122)],
 .op (some 124) none (.un .not (.t 123))] [])
 (.cond (.t 124)
 (.items [.op (some 125) none (.load none (.t 13)),
 .op (some 126) none (.mov (.t 20)),
 .call (some 127) none (.fn 72) [(.t 125), (.t 126)]] [])
 (.skip)))))
 (.items [.op (some 128) none (.bin .add (.t 118) (.c (.int .i64 1))),
 .op (some 118) none (.mov (.t 128))] [])))))))
 (.seq (.items [.op (some 129) none (.load none (.t 13)),
 .op (some 130) none (.load none (.t 13)),
 .op (some 131) none (.nilchk (.t 130)),
 .op (some 132) none (.faddr 6 (.t 131)),
 .op (some 133) none (.load none (.t 132)),
 .op (some 134) none (.mov (.t 4)),
 .op (some 135) none (.minmax true [(.t 133), (.t 134)]),
 .op (some 136) none (.nilchk (.t 129)),
 .op (some 137) none (.faddr 6 (.t 136)),
 .op none none (.store 1 (.t 137) (.t 135))] [])
 (.seq (.items [.op (some 138) none (.load none (.t 13)),
 .call (some 139) none (.fn 36) [(.t 138)]] [])
 (.seq (.items [.op (some 140) none (.load none (.t 13)),
 .op (some 141) none (.mov (.t 18)),
 .op (some 10) none (.mov (.t 140)),
 .op (some 11) none (.mov (.t 141)),
 .op (some 12) none (.mov (.c (.int .i64 0)))] [])
 (.ret)))))))))))),
 [.tmp 10, .tmp 11, .tmp 12], 5, false, false⟩
def a40 : Ann := { prom := [17], base := [(63, 17), (64, 17), (70, 17), (71, 17), (73, 17), (74, 17), (85, 17), (86, 17)], hps := [], frz := [], keepArgs := false, keepRes := false, ntmps := 142 }

/-- (*lapstone/pager.Pager).Tag -/
def i41 : IRFn :=
 ⟨.seq (.items [.op (some 2) none (.mov (.c (.int .u64 0)))] [])
 (.seq (.items [.op (some 3) none (.mov (.t 0)),
 .op (some 4) none (.nilchk (.t 3)),
 .op (some 5) none (.faddr 4 (.t 4)),
 .op (some 6) none (.load none (.t 5)),
 .op (some 2) none (.mov (.t 6))] [])
 (.ret)),
 [.tmp 2], 1, false, false⟩
def a41 : Ann := { prom := [], base := [], hps := [], frz := [], keepArgs := false, keepRes := false, ntmps := 7 }

/-- lapstone/store.parse -/
def i42 : IRFn :=
 ⟨.seq (.items [.op (some 2) none (.mov (.c .nils)),
 .op (some 3) none (.mov (.c (.bool false)))] [])
 (.seq (.items [.op (some 7) none (.mov (.t 0)),
 .op (some 8) none (.cvB (.t 7)),
 .call (some 9) none (.fn 47) [(.t 8)],
 .op (some 4) none (.mov (.t 9))] [])
 (.seq (.items [.op (some 5) none (.mov (.c .nils))] [])
 (.seq (.seq (.items [.op (some 10) none (.mov (.t 4)),
 .call (some 11) none (.fn 73) [(.t 10), (.c (.int .i64 11))],
 .op (some 12) none (.mov (.c (.int .i64 0)))] [])
 (.block 0
 (.loop
 (.seq (.items [.op (some 13) none (.bin .lss (.t 12) (.t 11))] [])
 (.seq (.cond (.t 13)
 (.skip)
 (.exit 0))
 (.seq (.block 1
 (.seq (.seq (.items [] [6])
 (.items [.op (some 14) none (.mov (.t 4)),
 .call (some 15) none (.fn 74) [(.t 14)],
 .op (some 16) none (.mov (.t 4)),
 .call (some 17) none (.fn 75) [(.t 16)],
 .op (some 18) none (.build [(.str []), (.str []), (.bool false)] [(0, 1, (.t 15)), (2, 1, (.t 17))]),
 .op (some 6) none (.lalloc (.agg [(.str []), (.str []), (.bool false)])),
 .op none none (.store 3 (.l 6) (.t 18))] []))
 (.seq (.seq (.items [.op (some 19) none (.faddr 2 (.l 6)),
 .op (some 20) none (.load none (.s 19 6)),
 .op (some 21) none (.un .not (.t 20))] [19])
 (.cond (.t 21)
 (.items [.op (some 22) none (.mov (.t 4)),
 .call (some 23) none (.fn 74) [(.t 22)],
 .op (some 24) none (.faddr 1 (.l 6)),
 .op none none (.store 1 (.s 24 6) (.t 23))] [24])
 (.skip)))
 (.items [.op (some 25) none (.mov (.t 5)),
 .op (some 26) none (.load (some 3) (.l 6)),
 .op (some 27) none (.bslice false (.agg [(.str []), (.str []), (.bool false)]) 1 [(0, (.t 26))]),
 .op (some 28) none (.append 3 true false false (.t 25) (.t 27)),
 .op (some 5) none (.mov (.t 28))] []))))
 (.items [.op (some 29) none (.bin .add (.t 12) (.c (.int .i64 1))),
 .op (some 12) none (.mov (.t 29))] [])))))))
 (.seq (.items [.op (some 30) none (.mov (.t 5)),
 .op (some 31) none (.mov (.t 4)),
 .call (some 32) none (.fn 49) [(.t 31)],
 .op (some 33) none (.bin .eql (.t 32) (.c (.int .i64 0))),
 .op (some 2) none (.mov (.t 30)),
 .op (some 3) none (.mov (.t 33))] [])
 (.ret))))),
 [.tmp 2, .tmp 3], 1, false, false⟩
def a42 : Ann := { prom := [6], base := [(19, 6), (24, 6)], hps := [], frz := [], keepArgs := false, keepRes := false, ntmps := 34 }

/-- (*lapstone/store.Store).may -/
def i43 : IRFn :=
 ⟨.seq (.items [.op (some 4) none (.mov (.c (.int .i64 0)))] [])
 (.seq (.seq (.items [.op (some 9) none (.mov (.t 1)),
 .op (some 10) none (.lenV (.t 9)),
 .op (some 11) none (.bin .gtr (.t 10) (.c (.int .i64 11)))] [])
 (.cond (.t 11)
 (.seq (.items [.op (some 4) none (.mov (.c (.int .i64 151)))] [])
 (.ret))
 (.skip)))
 (.seq (.items [.op (some 5) none (.mov (.c (.int .i64 8)))] [])
 (.seq (.seq (.items [.op (some 12) none (.mov (.t 1)),
 .op (some 13) none (.lenV (.t 12)),
 .op (some 14) none (.mov (.c (.int .i64 0)))] [])
 (.block 0
 (.loop
 (.seq (.items [.op (some 15) none (.bin .lss (.t 14) (.t 13))] [])
 (.seq (.cond (.t 15)
 (.skip)
 (.exit 0))
 (.seq (.block 1
 (.seq (.seq (.items [] [7])
 (.items [.op (some 16) none (.iaddr 3 (.t 12) (.t 14)),
 .op (some 17) none (.load (some 3) (.t 16)),
 .op (some 7) none (.lalloc (.agg [(.str []), (.str []), (.bool false)])),
 .op none none (.store 3 (.l 7) (.t 17))] []))
 (.seq (.items [.op (some 18) none (.faddr 0 (.l 7)),
 .op (some 19) none (.load none (.s 18 7)),
 .op (some 20) none (.lenS (.t 19)),
 .op (some 21) none (.faddr 1 (.l 7)),
 .op (some 22) none (.load none (.s 21 7)),
 .op (some 23) none (.lenS (.t 22)),
 .op (some 24) none (.bin .add (.t 20) (.t 23)),
 .op (some 8) none (.mov (.t 24))] [18, 21])
 (.seq (.seq (.items [.op (some 25) none (.faddr 2 (.l 7)),
 .op (some 26) none (.load none (.s 25 7))] [25])
 (.cond (.t 26)
 (.items [.op (some 27) none (.faddr 0 (.l 7)),
 .op (some 28) none (.load none (.s 27 7)),
 .op (some 29) none (.lenS (.t 28)),
 .op (some 8) none (.mov (.t 29))] [27])
 (.items [.op (some 30) none (.mov (.t 5)),
 .op (some 31) none (.bin .add (.t 30) (.c (.int .i64 2))),
 .op (some 5) none (.mov (.t 31))] [])))
 (.seq (.items [.op (some 32) none (.faddr 0 (.l 7)),
 .op (some 33) none (.load none (.s 32 7)),
 .op (some 34) none (.lenS (.t 33)),
 .op (some 35) none (.bin .gtr (.t 34) (.c (.int .i64 240))),
 .op (some 36) none (.mov (.t 35)),
 .op (some 37) (some (36, false)) (.mov (.t 8)),
 .op (some 38) (some (36, false)) (.bin .gtr (.t 37) (.c (.int .i64 480))),
 .op (some 39) none (.pick (.t 36) (.c (.bool true)) (.t 38))] [32])
 (.cond (.t 39)
 (.seq (.items [.op (some 4) none (.mov (.c (.int .i64 100)))] [])
 (.ret))
 (.skip)))))))
 (.items [.op (some 40) none (.bin .add (.t 14) (.c (.int .i64 1))),
 .op (some 14) none (.mov (.t 40))] [])))))))
 (.seq (.seq (.items [.op (some 41) none (.mov (.t 0)),
 .op (some 42) none (.nilchk (.t 41)),
 .op (some 43) none (.faddr 1 (.t 42)),
 .op (some 44) none (.load none (.t 43)),
 .call (some 45) none (.fn 64) [(.t 44)],
 .op (some 46) none (.lenV (.t 45)),
 .op (some 47) none (.bin .sub (.c (.int .i64 90)) (.t 46)),
 .op (some 48) none (.mov (.t 5)),
 .op (some 49) none (.bin .lss (.t 47) (.t 48))] [])
 (.cond (.t 49)
 (.seq (.items [.op (some 4) none (.mov (.c (.int .i64 141)))] [])
 (.ret))
 (.skip)))
 (.seq (.items [.op (some 4) none (.mov (.c (.int .i64 0)))] [])
 (.ret)))))),
 [.tmp 4], 2, false, false⟩
def a43 : Ann := { prom := [7], base := [(18, 7), (21, 7), (25, 7), (27, 7), (32, 7)], hps := [], frz := [], keepArgs := false, keepRes := false, ntmps := 50 }

/-- (*lapstone/store.Store).do -/
def i44 : IRFn :=
 ⟨.seq (.items [.op (some 2) none (.hbox (.t 0))] [])
 (.seq (.items [.op (some 7) none (.mkfn (.func 76) [] [(.t 2)]),
 .op (some 4) none (.mov (.t 7))] [])
 (.seq (.items [.op (some 8) none (.mov (.t 1)),
 .op (some 9) none (.lenV (.t 8)),
 .op (some 10) none (.mov (.c (.int .i64 0)))] [])
 (.block 0
 (.loop
 (.seq (.items [.op (some 11) none (.bin .lss (.t 10) (.t 9))] [])
 (.seq (.cond (.t 11)
 (.skip)
 (.exit 0))
 (.seq (.block 1
 (.seq (.seq (.items [] [6])
 (.items [.op (some 12) none (.iaddr 3 (.t 8) (.t 10)),
 .op (some 13) none (.load (some 3) (.t 12)),
 .op (some 6) none (.lalloc (.agg [(.str []), (.str []), (.bool false)])),
 .op none none (.store 3 (.l 6) (.t 13))] []))
 (.items [.op (some 14) none (.mov (.t 4)),
 .op (some 15) none (.load (some 3) (.l 6)),
 .call (some 16) none (.dyn (.t 14)) [(.t 15)]] [])))
 (.items [.op (some 17) none (.bin .add (.t 10) (.c (.int .i64 1))),
 .op (some 10) none (.mov (.t 17))] [])))))))),
 [], 2, false, false⟩
def a44 : Ann := { prom := [6], base := [], hps := [], frz := [], keepArgs := false, keepRes := false, ntmps := 18 }

/-- (*lapstone/tree.Tree).Range -/
def i45 : IRFn :=
 ⟨.seq (.items [.op (some 3) none (.hbox (.t 1)),
 .op (some 4) none (.mov (.c .nils))] [])
 (.seq (.items [.op (some 5) none (.halloc [.nils])] [])
 (.seq (.items [.op (some 9) none (.mkfn (.func 79) [] [(.t 3), (.t 5)]),
 .op (some 6) none (.halloc [.nilf]),
 .op none none (.store 1 (.t 6) (.t 9))] [])
 (.seq (.seq (.items [.op (some 10) none (.faddr 3 (.t 3)),
 .op (some 11) none (.load none (.t 10)),
 .op (some 12) none (.un .not (.t 11))] [])
 (.cond (.t 12)
 (.seq (.items [.op (some 13) none (.mov (.t 0)),
 .op (some 14) none (.faddr 0 (.t 3)),
 .op (some 15) none (.load none (.t 14)),
 .op (some 16) none (.mkfn (.func 81) [] [(.t 6), (.t 3), (.t 5)]),
 .call (some 17) none (.fn 80) [(.t 13), (.t 15), (.t 16)]] [])
 (.seq (.items [.op (some 18) none (.load none (.t 5)),
 .op (some 4) none (.mov (.t 18))] [])
 (.ret)))
 (.skip)))
 (.seq (.seq (.items [] [7])
 (.items [.op (some 20) none (.mov (.t 0)),
 .call (some 21) none (.fn 82) [(.t 20)],
 .op (some 19) none (.mov (.t 21)),
 .op (some 22) none (.extract (.t 19) 0),
 .op (some 23) none (.extract (.t 19) 1),
 .op (some 7) none (.lalloc (.agg [(.str []), (.str [])])),
 .op none none (.store 2 (.l 7) (.t 22)),
 .op (some 8) none (.mov (.t 23))] []))
 (.seq (.seq (.items [.op (some 24) none (.faddr 2 (.t 3)),
 .op (some 25) none (.load none (.t 24)),
 .op (some 26) none (.un .not (.t 25))] [])
 (.cond (.t 26)
 (.items [.op (some 28) none (.mov (.t 0)),
 .op (some 29) none (.faddr 1 (.t 3)),
 .op (some 30) none (.load none (.t 29)),
 .call (some 31) none (.fn 83) [(.t 28), (.t 30)],
 .op (some 27) none (.mov (.t 31)),
 .op (some 32) none (.extract (.t 27) 0),
 .op (some 33) none (.extract (.t 27) 1),
 .op none none (.store 2 (.l 7) (.t 32)),
 .op (some 8) none (.mov (.t 33))] [])
 (.skip)))
 (.seq (.block 0
 (.loop
 (.seq (.seq (.items [.op (some 34) none (.mov (.t 8)),
 .op (some 35) none (.mov (.t 34)),
 .op (some 36) (some (35, true)) (.faddr 0 (.l 7)),
 .op (some 37) (some (35, true)) (.load none (.s 36 7)),
 .op (some 38) (some (35, true)) (.faddr 0 (.t 3)),
 .op (some 39) (some (35, true)) (.load none (.t 38)),
 .op (some 40) (some (35, true)) (.bin .geq (.t 37) (.t 39)),
 .op (some 41) none (.pick (.t 35) (.t 40) (.c (.bool false))),
 .op (some 42) none (.mov (.t 41)),
 .op (some 43) (some (42, true)) (.load none (.t 6)),
 .call (some 44) (some (42, true)) (.dyn (.t 43)) [],
 .op (some 45) (some (42, true)) (.un .not (.t 44)),
 .op (some 46) none (.pick (.t 42) (.t 45) (.c (.bool false)))] [36])
 (.cond (.t 46)
 (.skip)
 (.exit 0)))
 (.seq (.block 1
 (.items [.op (some 54) none (.load none (.t 5)),
 .op (some 55) none (.load (some 2) (.l 7)),
 .op (some 56) none (.bslice false (.agg [(.str []), (.str [])]) 1 [(0, (.t 55))]),
 .op (some 57) none (.append 2 true false false (.t 54) (.t 56)),
 .op none none (.store 1 (.t 5) (.t 57))] []))
 (.items [.op (some 48) none (.mov (.t 0)),
 .op (some 49) none (.faddr 0 (.l 7)),
 .op (some 50) none (.load none (.s 49 7)),
 .call (some 51) none (.fn 83) [(.t 48), (.t 50)],
 .op (some 47) none (.mov (.t 51)),
 .op (some 52) none (.extract (.t 47) 0),
 .op (some 53) none (.extract (.t 47) 1),
 .op none none (.store 2 (.l 7) (.t 52)),
 .op (some 8) none (.mov (.t 53))] [49])))))
 (.seq (.items [.op (some 58) none (.load none (.t 5)),
 .op (some 4) none (.mov (.t 58))] [])
 (.ret)))))))),
 [.tmp 4], 2, false, false⟩
def a45 : Ann := { prom := [7], base := [(36, 7), (49, 7)], hps := [], frz := [], keepArgs := false, keepRes := false, ntmps := 59 }

/-- (*lapstone/tree.Tree).Get -/
def i46 : IRFn :=
 ⟨.seq (.items [.op (some 4) none (.mov (.c (.str []))),
 .op (some 5) none (.mov (.c (.int .i64 0)))] [])
 (.seq (.items [.op (some 10) none (.mov (.t 0)),
 .op (some 11) none (.mov (.t 1)),
 .call (some 12) none (.fn 84) [(.t 10), (.t 11)],
 .op (some 6) none (.mov (.t 12))] [])
 (.seq (.seq (.items [] [7])
 (.items [.op (some 13) none (.mov (.t 6)),
 .op (some 14) none (.mov (.t 6)),
 .op (some 15) none (.lenV (.t 14)),
 .op (some 16) none (.bin .sub (.t 15) (.c (.int .i64 1))),
 .op (some 17) none (.iaddr 5 (.t 13) (.t 16)),
 .op (some 18) none (.faddr 2 (.t 17)),
 .op (some 19) none (.load (some 3) (.t 18)),
 .op (some 7) none (.lalloc (.agg [(.bool false), (.int .i64 0), .nils])),
 .op none none (.store 3 (.l 7) (.t 19))] []))
 (.seq (.items [.op (some 21) none (.load (some 3) (.l 7)),
 .op (some 22) none (.mov (.t 1)),
 .call (some 23) none (.fn 85) [(.t 21), (.t 22)],
 .op (some 20) none (.mov (.t 23)),
 .op (some 24) none (.extract (.t 20) 0),
 .op (some 25) none (.extract (.t 20) 1),
 .op (some 8) none (.mov (.t 24)),
 .op (some 9) none (.mov (.t 25))] [])
 (.seq (.seq (.items [.op (some 26) none (.mov (.t 9)),
 .op (some 27) none (.un .not (.t 26))] [])
 (.cond (.t 27)
 (.seq (.items [.op (some 4) none (.mov (.c (.str []))),
 .op (some 5) none (.mov (.c (.int .i64 140)))] [])
 (.ret))
 (.skip)))
 (.seq (.items [.op (some 28) none (.faddr 2 (.l 7)),
 .op (some 29) none (.load none (.s 28 7)),
 .op (some 30) none (.mov (.t 8)),
 .op (some 31) none (.iaddr 2 (.t 29) (.t 30)),
 .op (some 32) none (.faddr 1 (.t 31)),
 .op (some 33) none (.load none (.t 32)),
 .op (some 4) none (.mov (.t 33)),
 .op (some 5) none (.mov (.c (.int .i64 0)))] [28])
 (.ret)))))),
 [.tmp 4, .tmp 5], 2, false, false⟩
def a46 : Ann := { prom := [7], base := [(28, 7)], hps := [], frz := [], keepArgs := false, keepRes := false, ntmps := 34 }

/-- lapstone/code.Read -/
def i47 : IRFn :=
 ⟨.seq (.items [.op (some 2) none (.mov (.c .nilp))] [])
 (.seq (.items [.op (some 3) none (.bslice false (.int .u8 0) 0 []),
 .op (some 4) none (.mov (.t 0)),
 .op (some 5) none (.append 1 false false false (.t 3) (.t 4)),
 .op (some 6) none (.build [.nils, (.int .i64 0)] [(0, 1, (.t 5))]),
 .op (some 7) none (.hbox (.t 6)),
 .op (some 2) none (.mov (.t 7))] [])
 (.ret)),
 [.tmp 2], 1, false, false⟩
def a47 : Ann := { prom := [], base := [], hps := [], frz := [], keepArgs := false, keepRes := false, ntmps := 8 }

/-- (*lapstone/code.Reader).Num -/
def i48 : IRFn :=
 ⟨.seq (.items [.op (some 2) none (.mov (.c (.int .u64 0)))] [])
 (.seq (.items [.op (some 7) none (.mov (.t 0)),
 .call (some 8) none (.fn 86) [(.t 7)],
 .op (some 6) none (.mov (.t 8)),
 .op (some 9) none (.extract (.t 6) 0),
 .op (some 10) none (.extract (.t 6) 1),
 .op (some 11) none (.extract (.t 6) 2),
 .op (some 3) none (.mov (.t 9)),
 .op (some 4) none (.mov (.t 10)),
 .op (some 5) none (.mov (.t 11))] [])
 (.seq (.seq (.items [.op (some 12) none (.mov (.t 5))] [])
 (.cond (.t 12)
 (.items [.op (some 13) none (.mov (.t 0)),
 .op (some 14) none (.mov (.t 4)),
 .op (some 15) none (.nilchk (.t 13)),
 .op (some 16) none (.faddr 0 (.t 15)),
 .op none none (.store 1 (.t 16) (.t 14))] [])
 (.skip)))
 (.seq (.items [.op (some 17) none (.mov (.t 3)),
 .op (some 2) none (.mov (.t 17))] [])
 (.ret)))),
 [.tmp 2], 1, false, false⟩
def a48 : Ann := { prom := [], base := [], hps := [], frz := [], keepArgs := false, keepRes := false, ntmps := 18 }

/-- (*lapstone/code.Reader).End -/
def i49 : IRFn :=
 ⟨.seq (.items [.op (some 2) none (.mov (.c (.int .i64 0)))] [])
 (.seq (.seq (.items [.op (some 3) none (.mov (.t 0)),
 .op (some 4) none (.nilchk (.t 3)),
 .op (some 5) none (.faddr 1 (.t 4)),
 .op (some 6) none (.load none (.t 5)),
 .op (some 7) none (.bin .eql (.t 6) (.c (.int .i64 0))),
 .op (some 8) none (.mov (.t 7)),
 .op (some 9) (some (8, true)) (.mov (.t 0)),
 .op (some 10) (some (8, true)) (.nilchk (.t 9)),
 .op (some 11) (some (8, true)) (.faddr 0 (.t 10)),
 .op (some 12) (some (8, true)) (.load none (.t 11)),
 .op (some 13) (some (8, true)) (.lenV (.t 12)),
 .op (some 14) (some (8, true)) (.bin .gtr (.t 13) (.c (.int .i64 0))),
 .op (some 15) none (.pick (.t 8) (.t 14) (.c (.bool false)))] [])
 (.cond (.t 15)
 (.seq (.items [.op (some 2) none (.mov (.c (.int .i64 31)))] [])
 (.ret))
 (.skip)))
 (.seq (.items [.op (some 16) none (.mov (.t 0)),
 .op (some 17) none (.nilchk (.t 16)),
 .op (some 18) none (.faddr 1 (.t 17)),
 .op (some 19) none (.load none (.t 18)),
 .op (some 2) none (.mov (.t 19))] [])
 (.ret))),
 [.tmp 2], 1, false, false⟩
def a49 : Ann := { prom := [], base := [], hps := [], frz := [], keepArgs := false, keepRes := false, ntmps := 20 }

/-- lapstone/view.parse -/
def i50 : IRFn :=
 ⟨.seq (.seq (.items [] [1, 3])
 (.items [.op (some 1) none (.lbox (.t 0)),
 .op (some 2) none (.mov (.c (.str []))),
 .op (some 3) none (.lalloc (.agg [(.int .u64 0), (.str []), (.bool false)])),
 .op (some 4) none (.mov (.c (.bool false)))] []))
 (.seq (.seq (.items [.op (some 9) none (.faddr 0 (.l 1)),
 .op (some 10) none (.load none (.s 9 1)),
 .op (some 11) none (.lenS (.t 10)),
 .op (some 12) none (.bin .eql (.t 11) (.c (.int .i64 0))),
 .op (some 13) none (.mov (.t 12)),
 .op (some 14) (some (13, false)) (.faddr 0 (.l 1)),
 .op (some 15) (some (13, false)) (.load none (.s 14 1)),
 .op (some 16) (some (13, false)) (.sliceS (.t 15) none (some (.c (.int .i64 1)))),
 .op (some 17) (some (13, false)) (.bin .neq (.t 16) (.c (.str [100]))),
 .op (some 18) none (.pick (.t 13) (.c (.bool true)) (.t 17)),
 .op (some 19) none (.mov (.t 18)),
 .op (some 20) (some (19, false)) (.faddr 1 (.l 1)),
 .op (some 21) (some (19, false)) (.load none (.s 20 1)),
 .op (some 22) (some (19, false)) (.lenS (.t 21)),
 .op (some 23) (some (19, false)) (.bin .eql (.t 22) (.c (.int .i64 0))),
 .op (some 24) none (.pick (.t 19) (.c (.bool true)) (.t 23))] [9, 14, 20])
 (.cond (.t 24)
 (.seq (.items [.op (some 25) none (.build [(.int .u64 0), (.str []), (.bool false)] []),
 .op (some 2) none (.mov (.c (.str []))),
 .op none none (.store 3 (.l 3) (.t 25)),
 .op (some 4) none (.mov (.c (.bool false)))] [])
 (.ret))
 (.skip)))
 (.seq (.items [.op (some 27) none (.faddr 0 (.l 1)),
 .op (some 28) none (.load none (.s 27 1)),
 .op (some 29) none (.sliceS (.t 28) (some (.c (.int .i64 1))) none),
 .op (some 30) none (.cvB (.t 29)),
 .call (some 31) none (.fn 87) [(.t 30)],
 .op (some 26) none (.mov (.t 31)),
 .op (some 32) none (.extract (.t 26) 0),
 .op (some 33) none (.extract (.t 26) 1),
 .op (some 34) none (.extract (.t 26) 2),
 .op (some 5) none (.mov (.t 32)),
 .op (some 6) none (.mov (.t 33)),
 .op (some 7) none (.mov (.t 34))] [27])
 (.seq (.seq (.items [] [8])
 (.items [.op (some 35) none (.mov (.t 6)),
 .op (some 36) none (.faddr 1 (.l 1)),
 .op (some 37) none (.load none (.s 36 1)),
 .op (some 38) none (.bin .eql (.t 37) (.c (.str [1]))),
 .op (some 39) none (.build [(.int .u64 0), (.str []), (.bool false)] [(0, 1, (.t 35)), (2, 1, (.t 38))]),
 .op (some 8) none (.lalloc (.agg [(.int .u64 0), (.str []), (.bool false)])),
 .op none none (.store 3 (.l 8) (.t 39))] [36]))
 (.seq (.seq (.items [.op (some 40) none (.faddr 2 (.l 8)),
 .op (some 41) none (.load none (.s 40 8)),
 .op (some 42) none (.un .not (.t 41))] [40])
 (.cond (.t 42)
 (.items [.op (some 43) none (.faddr 1 (.l 1)),
 .op (some 44) none (.load none (.s 43 1)),
 .op (some 45) none (.sliceS (.t 44) (some (.c (.int .i64 1))) none),
 .op (some 46) none (.faddr 1 (.l 8)),
 .op none none (.store 1 (.s 46 8) (.t 45))] [43, 46])
 (.skip)))
 (.seq (.items [.op (some 47) none (.mov (.t 5)),
 .op (some 48) none (.load (some 3) (.l 8)),
 .op (some 49) none (.mov (.t 7)),
 .op (some 50) none (.bin .eql (.t 49) (.c (.int .i64 0))),
 .op (some 51) none (.mov (.t 50)),
 .op (some 52) (some (51, true)) (.faddr 2 (.l 8)),
 .op (some 53) (some (51, true)) (.load none (.s 52 8)),
 .op (some 54) (some (51, true)) (.mov (.t 53)),
 .op (some 55) (some (54, false)) (.faddr 1 (.l 1)),
 .op (some 56) (some (54, false)) (.load none (.s 55 1)),
 .op (some 57) (some (54, false)) (.idxS (.t 56) (.c (.int .i64 0))),
 .op (some 58) (some (54, false)) (.bin .eql (.t 57) (.c (.int .u8 0))),
 .op (some 59) (some (51, true)) (.pick (.t 54) (.c (.bool true)) (.t 58)),
 .op (some 60) none (.pick (.t 51) (.t 59) (.c (.bool false))),
 .op (some 2) none (.mov (.t 47)),
 .op none none (.store 3 (.l 3) (.t 48)),
 .chk 55 (some (54, false)) (.faddr 1 (.l 1)),
 .chk 56 (some (54, false)) (.load none (.s 55 1)),
 .op (some 4) none (.mov (.t 60))] [52, 55])
 (.ret)))))),
 [.tmp 2, .loc 3 (some 3), .tmp 4], 1, false, false⟩
def a50 : Ann := { prom := [1, 3, 8], base := [(9, 1), (14, 1), (20, 1), (27, 1), (36, 1), (40, 8), (43, 1), (46, 8), (52, 8), (55, 1)], hps := [], frz := [], keepArgs := false, keepRes := false, ntmps := 61 }

/-- (*lapstone/view.View).may -/
def i51 : IRFn :=
 ⟨.seq (.items [.op (some 4) none (.mov (.c (.int .i64 0)))] [])
 (.seq (.block 0
 (.seq (.items [.op (some 6) none (.mov (.t 1)),
 .op (some 7) none (.mov (.t 0)),
 .op (some 8) none (.nilchk (.t 7)),
 .op (some 9) none (.faddr 1 (.t 8)),
 .op (some 10) none (.load none (.t 9)),
 .op (some 11) none (.bin .gtr (.t 6) (.t 10)),
 .op (some 5) none (.mov (.t 11))] [])
 (.cond (.t 5)
 (.seq (.items [.op (some 4) none (.mov (.c (.int .i64 171)))] [])
 (.ret))
 (.seq (.items [.op (some 13) none (.mov (.t 1)),
 .op (some 14) none (.mov (.t 0)),
 .op (some 15) none (.nilchk (.t 14)),
 .op (some 16) none (.faddr 2 (.t 15)),
 .op (some 17) none (.load none (.t 16)),
 .op (some 18) none (.bin .lss (.t 13) (.t 17)),
 .op (some 12) none (.mov (.t 18))] [])
 (.cond (.t 12)
 (.seq (.items [.op (some 4) none (.mov (.c (.int .i64 172)))] [])
 (.ret))
 (.skip))))))
 (.seq (.items [.op (some 4) none (.mov (.c (.int .i64 0)))] [])
 (.ret))),
 [.tmp 4], 2, false, false⟩
def a51 : Ann := { prom := [], base := [], hps := [], frz := [], keepArgs := false, keepRes := false, ntmps := 19 }

/-- (*lapstone/view.View).read -/
def i52 : IRFn :=
 ⟨.seq (.items [.op (some 6) none (.mov (.c (.str []))),
 .op (some 7) none (.mov (.c (.bool false)))] [])
 (.seq (.seq (.items [.op (some 12) none (.mov (.t 1)),
 .op (some 13) none (.lenS (.t 12)),
 .op (some 14) none (.bin .gtr (.t 13) (.c (.int .i64 64)))] [])
 (.cond (.t 14)
 (.seq (.items [.op (some 6) none (.mov (.c (.str []))),
 .op (some 7) none (.mov (.c (.bool false)))] [])
 (.ret))
 (.skip)))
 (.seq (.items [.op (some 15) none (.mov (.t 0)),
 .op (some 16) none (.nilchk (.t 15)),
 .op (some 17) none (.faddr 0 (.t 16)),
 .op (some 18) none (.load none (.t 17)),
 .op (some 19) none (.nilchk (.t 18)),
 .op (some 20) none (.faddr 0 (.t 19)),
 .op (some 21) none (.load none (.t 20)),
 .op (some 22) none (.mov (.t 1)),
 .op (some 23) none (.mov (.t 2)),
 .op (some 25) none (.mov (.t 1)),
 .call (some 24) none (.fn 33) [(.t 22), (.t 23)],
 .chk 18 none (.load none (.t 17)),
 .chk 21 none (.load none (.t 20)),
 .call (some 26) none (.fn 33) [(.t 25), (.c (.int .u64 0))],
 .chk 18 none (.load none (.t 17)),
 .chk 21 none (.load none (.t 20)),
 .op (some 27) none (.bin .add (.t 26) (.c (.str [0]))),
 .op (some 28) none (.build [(.str []), (.str []), (.bool false), (.bool false), (.int .i64 0)] [(0, 1, (.t 24)), (1, 1, (.t 27)), (4, 1, (.c (.int .i64 1)))]),
 .call (some 29) none (.fn 45) [(.t 21), (.t 28)],
 .op (some 8) none (.mov (.t 29))] [])
 (.seq (.seq (.items [.op (some 30) none (.mov (.t 8)),
 .op (some 31) none (.lenV (.t 30)),
 .op (some 32) none (.bin .eql (.t 31) (.c (.int .i64 0)))] [])
 (.cond (.t 32)
 (.seq (.items [.op (some 6) none (.mov (.c (.str []))),
 .op (some 7) none (.mov (.c (.bool false)))] [])
 (.ret))
 (.skip)))
 (.seq (.seq (.items [] [10])
 (.items [.op (some 34) none (.mov (.t 8)),
 .op (some 35) none (.iaddr 2 (.t 34) (.c (.int .i64 0))),
 .op (some 36) none (.load (some 2) (.t 35)),
 .call (some 37) none (.fn 50) [(.t 36)],
 .op (some 33) none (.mov (.t 37)),
 .op (some 38) none (.extract (.t 33) 0),
 .op (some 39) none (.extract (.t 33) 1),
 .op (some 40) none (.extract (.t 33) 2),
 .op (some 10) none (.lalloc (.agg [(.int .u64 0), (.str []), (.bool false)])),
 .op (some 9) none (.mov (.t 38)),
 .op none none (.store 3 (.l 10) (.t 39)),
 .op (some 11) none (.mov (.t 40))] []))
 (.seq (.items [.op (some 41) none (.faddr 1 (.l 10)),
 .op (some 42) none (.load none (.s 41 10)),
 .op (some 43) none (.mov (.t 11)),
 .op (some 44) none (.mov (.t 43)),
 .op (some 45) (some (44, true)) (.faddr 2 (.l 10)),
 .op (some 46) (some (44, true)) (.load none (.s 45 10)),
 .op (some 47) (some (44, true)) (.un .not (.t 46)),
 .op (some 48) none (.pick (.t 44) (.t 47) (.c (.bool false))),
 .op (some 6) none (.mov (.t 42)),
 .op (some 7) none (.mov (.t 48))] [41, 45])
 (.ret)))))),
 [.tmp 6, .tmp 7], 3, false, false⟩
def a52 : Ann := { prom := [10], base := [(41, 10), (45, 10)], hps := [], frz := [], keepArgs := false, keepRes := false, ntmps := 49 }

/-- (*lapstone/lapstonetop.wholeBook).since -/
def i53 : IRFn :=
 ⟨.seq (.items [.op (some 6) none (.mov (.c (.bool false)))] [])
 (.seq (.seq (.items [.op (some 11) none (.mov (.t 2)),
 .op (some 12) none (.minmax true [(.t 11), (.c (.int .i64 0))]),
 .op (some 7) none (.mov (.t 12))] [])
 (.block 0
 (.loop
 (.seq (.seq (.items [.op (some 13) none (.mov (.t 7)),
 .op (some 14) none (.mov (.t 0)),
 .op (some 15) none (.nilchk (.t 14)),
 .op (some 16) none (.faddr 0 (.t 15)),
 .op (some 17) none (.load none (.t 16)),
 .op (some 18) none (.lenV (.t 17)),
 .op (some 19) none (.bin .lss (.t 13) (.t 18))] [])
 (.cond (.t 19)
 (.skip)
 (.exit 0)))
 (.seq (.block 1
 (.seq (.items [.op (some 8) none (.mov (.c (.int .i64 0)))] [])
 (.block 2
 (.loop
 (.seq (.seq (.items [.op (some 22) none (.mov (.t 8)),
 .op (some 23) none (.mov (.t 1)),
 .op (some 24) none (.lenV (.t 23)),
 .op (some 25) none (.bin .lss (.t 22) (.t 24))] [])
 (.cond (.t 25)
 (.skip)
 (.exit 2)))
 (.seq (.block 3
 (.seq (.seq (.items [] [9])
 (.items [.op (some 29) none (.mov (.t 0)),
 .op (some 30) none (.nilchk (.t 29)),
 .op (some 31) none (.faddr 0 (.t 30)),
 .op (some 32) none (.load none (.t 31)),
 .op (some 33) none (.mov (.t 7)),
 .op (some 34) none (.iaddr 1 (.t 32) (.t 33)),
 .op (some 35) none (.load none (.t 34)),
 .op (some 36) none (.mov (.t 1)),
 .op (some 37) none (.mov (.t 8)),
 .op (some 38) none (.iaddr 3 (.t 36) (.t 37)),
 .op (some 39) none (.faddr 0 (.t 38)),
 .op (some 40) none (.load none (.t 39)),
 .op (some 9) none (.lalloc (.agg [(.str []), (.str []), (.bool false)])),
 .call (some 41) none (.fn 13) [(.t 35), (.t 40)],
 .chk 9 none (.lalloc (.agg [(.str []), (.str []), (.bool false)])),
 .op (some 28) none (.mov (.t 41)),
 .op (some 42) none (.extract (.t 28) 0),
 .op (some 43) none (.extract (.t 28) 1),
 .op none none (.store 3 (.l 9) (.t 42)),
 .op (some 10) none (.mov (.t 43))] []))
 (.seq (.items [.op (some 44) none (.mov (.t 10))] [])
 (.cond (.t 44)
 (.seq (.items [.op (some 6) none (.mov (.c (.bool true)))] [])
 (.ret))
 (.skip)))))
 (.items [.op (some 26) none (.mov (.t 8)),
 .op (some 27) none (.bin .add (.t 26) (.c (.int .i64 1))),
 .op (some 8) none (.mov (.t 27))] [])))))))
 (.items [.op (some 20) none (.mov (.t 7)),
 .op (some 21) none (.bin .add (.t 20) (.c (.int .i64 1))),
 .op (some 7) none (.mov (.t 21))] []))))))
 (.seq (.items [.op (some 6) none (.mov (.c (.bool false)))] [])
 (.ret))),
 [.tmp 6], 3, false, false⟩
def a53 : Ann := { prom := [9], base := [], hps := [], frz := [], keepArgs := false, keepRes := false, ntmps := 45 }

/-- lapstone/batch.write -/
def i54 : IRFn :=
 ⟨.seq (.seq (.items [] [1])
 (.items [.op (some 1) none (.lbox (.t 0)),
 .op (some 2) none (.mov (.c (.int .i64 0)))] []))
 (.seq (.block 0
 (.seq (.items [.op (some 4) none (.faddr 0 (.l 1)),
 .op (some 5) none (.load none (.s 4 1)),
 .op (some 6) none (.bin .eql (.t 5) (.c (.str []))),
 .op (some 7) none (.mov (.t 6)),
 .op (some 8) (some (7, false)) (.faddr 0 (.l 1)),
 .op (some 9) (some (7, false)) (.load none (.s 8 1)),
 .op (some 10) (some (7, false)) (.lenS (.t 9)),
 .op (some 11) (some (7, false)) (.bin .gtr (.t 10) (.c (.int .i64 64))),
 .op (some 12) none (.pick (.t 7) (.c (.bool true)) (.t 11)),
 .op (some 3) none (.mov (.t 12))] [4, 8])
 (.cond (.t 3)
 (.seq (.items [.op (some 2) none (.mov (.c (.int .i64 52)))] [])
 (.ret))
 (.seq (.items [.op (some 14) none (.faddr 1 (.l 1)),
 .op (some 15) none (.load none (.s 14 1)),
 .op (some 16) none (.lenS (.t 15)),
 .op (some 17) none (.bin .gtr (.t 16) (.c (.int .i64 256))),
 .op (some 18) none (.mov (.t 17)),
 .op (some 19) (some (18, false)) (.faddr 2 (.l 1)),
 .op (some 20) (some (18, false)) (.load none (.s 19 1)),
 .op (some 21) (some (18, false)) (.mov (.t 20)),
 .op (some 22) (some (21, true)) (.faddr 1 (.l 1)),
 .op (some 23) (some (21, true)) (.load none (.s 22 1)),
 .op (some 24) (some (21, true)) (.bin .neq (.t 23) (.c (.str []))),
 .op (some 25) (some (18, false)) (.pick (.t 21) (.t 24) (.c (.bool false))),
 .op (some 26) none (.pick (.t 18) (.c (.bool true)) (.t 25)),
 .op (some 13) none (.mov (.t 26))] [14, 19, 22])
 (.cond (.t 13)
 (.seq (.items [.op (some 2) none (.mov (.c (.int .i64 53)))] [])
 (.ret))
 (.skip))))))
 (.seq (.items [.op (some 2) none (.mov (.c (.int .i64 0)))] [])
 (.ret))),
 [.tmp 2], 1, false, false⟩
def a54 : Ann := { prom := [1], base := [(4, 1), (8, 1), (14, 1), (19, 1), (22, 1)], hps := [], frz := [], keepArgs := false, keepRes := false, ntmps := 27 }

/-- lapstone/code.Write -/
def i55 : IRFn :=
 ⟨.seq (.items [.op (some 0) none (.mov (.c .nilp))] [])
 (.seq (.items [.op (some 1) none (.build [.nils, (.int .i64 0)] []),
 .op (some 2) none (.hbox (.t 1)),
 .op (some 0) none (.mov (.t 2))] [])
 (.ret)),
 [.tmp 0], 0, false, false⟩
def a55 : Ann := { prom := [], base := [], hps := [], frz := [], keepArgs := false, keepRes := false, ntmps := 3 }

/-- (*lapstone/code.Writer).Num -/
def i56 : IRFn :=
 ⟨.seq (.items [.op (some 6) none (.mov (.t 1)),
 .op (some 7) none (.lenV (.t 6)),
 .op (some 8) none (.mov (.c (.int .i64 0)))] [])
 (.block 0
 (.loop
 (.seq (.items [.op (some 9) none (.bin .lss (.t 8) (.t 7))] [])
 (.seq (.cond (.t 9)
 (.skip)
 (.exit 0))
 (.seq (.block 1
 (.seq (.items [.op (some 10) none (.iaddr 1 (.t 6) (.t 8)),
 .op (some 11) none (.load none (.t 10)),
 .op (some 5) none (.mov (.t 11))] [])
 (.seq (.items [.op (some 12) none (.mov (.t 0)),
 .op (some 13) none (.nilchk (.t 12)),
 .op (some 14) none (.faddr 1 (.t 13)),
 .op (some 15) none (.load none (.t 14)),
 .op (some 16) none (.bin .eql (.t 15) (.c (.int .i64 0)))] [])
 (.cond (.t 16)
 (.items [.op (some 17) none (.mov (.t 0)),
 .op (some 18) none (.mov (.t 0)),
 .op (some 19) none (.nilchk (.t 18)),
 .op (some 20) none (.faddr 0 (.t 19)),
 .op (some 21) none (.load none (.t 20)),
 .op (some 22) none (.mov (.t 5)),
 .call (some 23) none (.fn 88) [(.t 21), (.t 22)],
 .op (some 24) none (.nilchk (.t 17)),
 .op (some 25) none (.faddr 0 (.t 24)),
 .op none none (.store 1 (.t 25) (.t 23))] [])
 (.skip)))))
 (.items [.op (some 26) none (.bin .add (.t 8) (.c (.int .i64 1))),
 .op (some 8) none (.mov (.t 26))] [])))))),
 [], 2, false, false⟩
def a56 : Ann := { prom := [], base := [], hps := [], frz := [], keepArgs := false, keepRes := false, ntmps := 27 }

/-- (*lapstone/code.Writer).Bytes -/
def i57 : IRFn :=
 ⟨.seq (.items [.op (some 2) none (.mov (.c .nils)),
 .op (some 3) none (.mov (.c (.int .i64 0)))] [])
 (.seq (.seq (.items [.op (some 4) none (.mov (.t 0)),
 .op (some 5) none (.nilchk (.t 4)),
 .op (some 6) none (.faddr 1 (.t 5)),
 .op (some 7) none (.load none (.t 6)),
 .op (some 8) none (.bin .neq (.t 7) (.c (.int .i64 0)))] [])
 (.cond (.t 8)
 (.seq (.items [.op (some 9) none (.mov (.t 0)),
 .op (some 10) none (.nilchk (.t 9)),
 .op (some 11) none (.faddr 1 (.t 10)),
 .op (some 12) none (.load none (.t 11)),
 .op (some 2) none (.mov (.c .nils)),
 .op (some 3) none (.mov (.t 12))] [])
 (.ret))
 (.skip)))
 (.seq (.items [.op (some 13) none (.bslice false (.int .u8 0) 0 []),
 .op (some 14) none (.mov (.t 0)),
 .op (some 15) none (.nilchk (.t 14)),
 .op (some 16) none (.faddr 0 (.t 15)),
 .op (some 17) none (.load none (.t 16)),
 .op (some 18) none (.append 1 false false false (.t 13) (.t 17)),
 .op (some 2) none (.mov (.t 18)),
 .op (some 3) none (.mov (.c (.int .i64 0)))] [])
 (.ret))),
 [.tmp 2, .tmp 3], 1, false, false⟩
def a57 : Ann := { prom := [], base := [], hps := [], frz := [], keepArgs := false, keepRes := false, ntmps := 19 }

/-- lapstone/keys.Put -/
def i58 : IRFn :=
 ⟨.seq (.items [.op (some 4) none (.mov (.c .nils)),
 .op (some 5) none (.mov (.c (.int .i64 0)))] [])
 (.seq (.seq (.items [.op (some 9) none (.mov (.t 0)),
 .op (some 10) none (.lenS (.t 9)),
 .op (some 11) none (.bin .gtr (.t 10) (.c (.int .i64 64)))] [])
 (.cond (.t 11)
 (.seq (.items [.op (some 4) none (.mov (.c .nils)),
 .op (some 5) none (.mov (.c (.int .i64 41)))] [])
 (.ret))
 (.skip)))
 (.seq (.items [.op (some 12) none (.mov (.t 0)),
 .op (some 13) none (.lenS (.t 12)),
 .op (some 14) none (.bin .add (.t 13) (.c (.int .i64 10))),
 .op (some 15) none (.mkslice false (.int .u8 0) (.c (.int .i64 0)) (.t 14)),
 .op (some 6) none (.halloc [.nils]),
 .op none none (.store 1 (.t 6) (.t 15))] [])
 (.seq (.items [.op (some 16) none (.mkfn (.func 89) [] [(.t 6)]),
 .op (some 7) none (.mov (.t 16))] [])
 (.seq (.seq (.items [.op (some 17) none (.mov (.t 0)),
 .op (some 18) none (.lenS (.t 17)),
 .op (some 19) none (.mov (.c (.int .i64 0)))] [])
 (.block 0
 (.loop
 (.seq (.items [.op (some 20) none (.bin .lss (.t 19) (.t 18))] [])
 (.seq (.cond (.t 20)
 (.skip)
 (.exit 0))
 (.seq (.block 1
 (.seq (.items [.op (some 21) none (.mov (.t 19)),
 .op (some 8) none (.mov (.t 21))] [])
 (.seq (.seq (.items [.op (some 22) none (.mov (.t 0)),
 .op (some 23) none (.mov (.t 8)),
 .op (some 24) none (.idxS (.t 22) (.t 23)),
 .op (some 25) none (.bin .eql (.t 24) (.c (.int .u8 0)))] [])
 (.cond (.t 25)
 (.seq (.items [.op (some 26) none (.mov (.t 7)),
 .call (some 27) none (.dyn (.t 26)) [(.c (.str [0, 255]))]] [])
 (.exit 1))
 (.skip)))
 (.items [.op (some 28) none (.mov (.t 7)),
 .op (some 29) none (.mov (.t 0)),
 .op (some 30) none (.mov (.t 8)),
 .op (some 31) none (.mov (.t 8)),
 .op (some 32) none (.bin .add (.t 31) (.c (.int .i64 1))),
 .op (some 33) none (.sliceS (.t 29) (some (.t 30)) (some (.t 32))),
 .call (some 34) none (.dyn (.t 28)) [(.t 33)]] []))))
 (.items [.op (some 35) none (.bin .add (.t 19) (.c (.int .i64 1))),
 .op (some 19) none (.mov (.t 35))] [])))))))
 (.seq (.items [.op (some 36) none (.mov (.t 7)),
 .call (some 37) none (.dyn (.t 36)) [(.c (.str [0, 1]))]] [])
 (.seq (.items [.op (some 39) none (.load none (.t 6)),
 .op (some 40) none (.mov (.t 1)),
 .op (some 41) none (.un .xor (.t 40)),
 .call (some 42) none (.fn 90) [(.t 39), (.t 41), (.c (.int .i64 8))],
 .op (some 38) none (.mov (.t 42)),
 .op (some 43) none (.extract (.t 38) 0),
 .op (some 44) none (.extract (.t 38) 1),
 .op none none (.store 1 (.t 6) (.t 43))] [])
 (.seq (.items [.op (some 45) none (.load none (.t 6)),
 .op (some 4) none (.mov (.t 45)),
 .op (some 5) none (.mov (.c (.int .i64 0)))] [])
 (.ret)))))))),
 [.tmp 4, .tmp 5], 2, false, false⟩
def a58 : Ann := { prom := [], base := [], hps := [], frz := [], keepArgs := false, keepRes := false, ntmps := 46 }

/-- (*lapstone/wal.Log).Append -/
def i59 : IRFn :=
 ⟨.seq (.items [.op (some 4) none (.mov (.c (.int .u64 0))),
 .op (some 5) none (.mov (.c (.int .i64 0)))] [])
 (.seq (.items [.op (some 17) none (.mov (.t 0)),
 .op (some 18) none (.nilchk (.t 17)),
 .op (some 19) none (.faddr 6 (.t 18)),
 .op (some 20) none (.load none (.t 19)),
 .op (some 21) none (.bin .add (.t 20) (.c (.int .u64 1))),
 .op (some 6) none (.mov (.t 21))] [])
 (.seq (.items [.op (some 23) none (.mov (.t 6)),
 .op (some 24) none (.mov (.t 1)),
 .op (some 25) none (.build [(.int .u64 0), (.str [])] [(0, 1, (.t 23)), (1, 1, (.t 24))]),
 .call (some 26) none (.fn 91) [(.t 25)],
 .op (some 22) none (.mov (.t 26)),
 .op (some 27) none (.extract (.t 22) 0),
 .op (some 28) none (.extract (.t 22) 1),
 .op (some 7) none (.mov (.t 27)),
 .op (some 8) none (.mov (.t 28))] [])
 (.seq (.items [.op (some 30) none (.mov (.t 6)),
 .op (some 31) none (.build [(.int .u64 0), (.str [])] [(0, 1, (.t 30)), (1, 1, (.c (.str [115, 101, 103, 109, 101, 110, 116])))]),
 .call (some 32) none (.fn 91) [(.t 31)],
 .op (some 29) none (.mov (.t 32)),
 .op (some 33) none (.extract (.t 29) 0),
 .op (some 34) none (.extract (.t 29) 1),
 .op (some 9) none (.mov (.t 33)),
 .op (some 10) none (.mov (.t 34))] [])
 (.seq (.seq (.items [.op (some 35) none (.mov (.t 8)),
 .op (some 36) none (.bin .neq (.t 35) (.c (.int .i64 0))),
 .op (some 37) none (.mov (.t 36)),
 .op (some 38) (some (37, false)) (.mov (.t 9)),
 .op (some 39) (some (37, false)) (.lenV (.t 38)),
 .op (some 40) (some (37, false)) (.mov (.t 7)),
 .op (some 41) (some (37, false)) (.lenV (.t 40)),
 .op (some 42) (some (37, false)) (.bin .add (.t 39) (.t 41)),
 .op (some 43) (some (37, false)) (.mov (.t 0)),
 .call (some 44) (some (37, false)) (.fn 92) [(.t 43)],
 .op (some 45) (some (37, false)) (.bin .gtr (.t 42) (.t 44)),
 .op (some 46) none (.pick (.t 37) (.c (.bool true)) (.t 45))] [])
 (.cond (.t 46)
 (.seq (.items [.op (some 4) none (.mov (.c (.int .u64 0))),
 .op (some 5) none (.mov (.c (.int .i64 81)))] [])
 (.ret))
 (.skip)))
 (.seq (.items [.op (some 47) none (.mov (.t 0)),
 .op (some 48) none (.nilchk (.t 47)),
 .op (some 49) none (.faddr 5 (.t 48)),
 .op (some 50) none (.load none (.t 49)),
 .op (some 51) none (.mov (.t 0)),
 .op (some 52) none (.nilchk (.t 51)),
 .op (some 53) none (.faddr 5 (.t 52)),
 .op (some 54) none (.load none (.t 53)),
 .op (some 55) none (.lenV (.t 54)),
 .op (some 56) none (.mov (.t 0)),
 .op (some 57) none (.nilchk (.t 56)),
 .op (some 58) none (.faddr 4 (.t 57)),
 .op (some 59) none (.load none (.t 58)),
 .op (some 11) none (.mov (.t 50)),
 .op (some 12) none (.mov (.t 55)),
 .op (some 13) none (.mov (.t 59))] [])
 (.seq (.seq (.items [.op (some 60) none (.mov (.t 11)),
 .op (some 61) none (.lenV (.t 60)),
 .op (some 62) none (.bin .eql (.t 61) (.c (.int .i64 0))),
 .op (some 63) none (.mov (.t 62)),
 .op (some 64) (some (63, false)) (.mov (.t 11)),
 .op (some 65) (some (63, false)) (.lenV (.t 64)),
 .op (some 66) (some (63, false)) (.mov (.t 7)),
 .op (some 67) (some (63, false)) (.lenV (.t 66)),
 .op (some 68) (some (63, false)) (.bin .add (.t 65) (.t 67)),
 .op (some 69) (some (63, false)) (.mov (.t 0)),
 .call (some 70) (some (63, false)) (.fn 92) [(.t 69)],
 .op (some 71) (some (63, false)) (.bin .gtr (.t 68) (.t 70)),
 .op (some 72) none (.pick (.t 63) (.c (.bool true)) (.t 71))] [])
 (.cond (.t 72)
 (.seq (.items [.op (some 14) none (.mov (.c (.int .i64 0)))] [])
 (.seq (.block 0
 (.loop
 (.seq (.seq (.items [.op (some 73) none (.mov (.t 14)),
 .op (some 74) none (.mov (.t 0)),
 .op (some 75) none (.nilchk (.t 74)),
 .op (some 76) none (.faddr 2 (.t 75)),
 .op (some 77) none (.load none (.t 76)),
 .op (some 78) none (.bin .lss (.t 73) (.t 77)),
 .op (some 79) none (.mov (.t 78)),
 .op (some 80) (some (79, true)) (.mov (.t 0)),
 .op (some 81) (some (79, true)) (.mov (.t 14)),
 .call (some 82) (some (79, true)) (.fn 71) [(.t 80), (.t 81)],
 .op (some 83) none (.pick (.t 79) (.t 82) (.c (.bool false)))] [])
 (.cond (.t 83)
 (.skip)
 (.exit 0)))
 (.block 1
 (.items [.op (some 84) none (.mov (.t 14)),
 .op (some 85) none (.bin .add (.t 84) (.c (.int .i64 1))),
 .op (some 14) none (.mov (.t 85))] [])))))
 (.seq (.seq (.items [.op (some 86) none (.mov (.t 14)),
 .op (some 87) none (.mov (.t 0)),
 .op (some 88) none (.nilchk (.t 87)),
 .op (some 89) none (.faddr 2 (.t 88)),
 .op (some 90) none (.load none (.t 89)),
 .op (some 91) none (.bin .eql (.t 86) (.t 90))] [])
 (.cond (.t 91)
 (.seq (.items [.op (some 4) none (.mov (.c (.int .u64 0))),
 .op (some 5) none (.mov (.c (.int .i64 82)))] [])
 (.ret))
 (.skip)))
 (.seq (.items [.op (some 92) none (.mov (.t 9)),
 .op (some 11) none (.mov (.t 92)),
 .op (some 12) none (.mov (.c (.int .i64 0)))] [])
 (.items [.op (some 93) none (.mov (.t 13)),
 .call (some 94) none (.fn 93) [(.t 93)],
 .op (some 95) none (.mov (.t 14)),
 .op (some 96) none (.mov (.t 6)),
 .op (some 97) none (.build [(.int .i64 0), (.int .u64 0), (.int .u64 0)] [(0, 1, (.t 95)), (1, 1, (.t 96)), (2, 1, (.c (.int .u64 0)))]),
 .op (some 98) none (.bslice false (.agg [(.int .i64 0), (.int .u64 0), (.int .u64 0)]) 1 [(0, (.t 97))]),
 .op (some 99) none (.append 3 true true false (.t 94) (.t 98)),
 .op (some 13) none (.mov (.t 99))] [])))))
 (.items [.op (some 100) none (.mov (.t 13)),
 .call (some 101) none (.fn 93) [(.t 100)],
 .op (some 13) none (.mov (.t 101))] [])))
 (.seq (.items [.op (some 102) none (.mov (.t 11)),
 .call (some 103) none (.fn 94) [(.t 102)],
 .op (some 104) none (.mov (.t 7)),
 .op (some 105) none (.append 1 false false false (.t 103) (.t 104)),
 .op (some 11) none (.mov (.t 105))] [])
 (.seq (.items [.op (some 106) none (.mov (.t 13)),
 .op (some 107) none (.mov (.t 13)),
 .op (some 108) none (.lenV (.t 107)),
 .op (some 109) none (.bin .sub (.t 108) (.c (.int .i64 1))),
 .op (some 110) none (.iaddr 3 (.t 106) (.t 109)),
 .op (some 15) none (.mov (.t 110))] [])
 (.seq (.seq (.items [.op (some 111) none (.mov (.t 0)),
 .op (some 112) none (.mov (.t 15)),
 .op (some 113) none (.nilchk (.t 112)),
 .op (some 114) none (.faddr 0 (.t 113)),
 .op (some 115) none (.load none (.t 114)),
 .op (some 116) none (.mov (.t 12)),
 .op (some 117) none (.mov (.t 11)),
 .call (some 118) none (.fn 95) [(.t 111), (.t 115), (.t 116), (.t 117)],
 .op (some 16) none (.mov (.t 118))] [])
 (.seq (.items [.op (some 119) none (.mov (.t 16)),
 .op (some 120) none (.bin .neq (.t 119) (.c (.int .i64 0)))] [])
 (.cond (.t 120)
 (.seq (.items [.op (some 121) none (.mov (.t 0)),
 .op (some 122) none (.nilchk (.t 121)),
 .op (some 123) none (.faddr 5 (.t 122)),
 .op none none (.store 1 (.t 123) (.c .nils))] [])
 (.seq (.seq (.items [.op (some 124) none (.mov (.t 0)),
 .op (some 125) none (.mov (.t 15)),
 .op (some 126) none (.nilchk (.t 125)),
 .op (some 127) none (.faddr 0 (.t 126)),
 .op (some 128) none (.load none (.t 127)),
 .call (some 129) none (.fn 71) [(.t 124), (.t 128)],
 .op (some 130) none (.un .not (.t 129))] [])
 (.cond (.t 130)
 (.seq (.items [.op (some 131) none (.mov (.t 0)),
 .op (some 132) none (.mov (.t 15)),
 .op (some 133) none (.nilchk (.t 132)),
 .op (some 134) none (.faddr 0 (.t 133)),
 .op (some 135) none (.load none (.t 134)),
 .call (some 136) none (.fn 72) [(.t 131), (.t 135)]] [])
 (.items [.op (some 137) none (.mov (.t 0)),
 .call (some 138) none (.fn 36) [(.t 137)]] []))
 (.skip)))
 (.seq (.items [.op (some 139) none (.mov (.t 16)),
 .op (some 4) none (.mov (.c (.int .u64 0))),
 .op (some 5) none (.mov (.t 139))] [])
 (.ret))))
 (.skip))))
 (.seq (.items [.op (some 140) none (.mov (.t 15)),
 .op (some 141) none (.nilchk (.t 140)),
 .op (some 142) none (.faddr 2 (.t 141)),
 .op (some 143) none (.load none (.t 142)),
 .op (some 144) none (.bin .add (.t 143) (.c (.int .u64 1))),
 .op (some 145) none (.nilchk (.t 140)),
 .op (some 146) none (.faddr 2 (.t 145)),
 .op none none (.store 1 (.t 146) (.t 144))] [])
 (.seq (.items [.op (some 147) none (.mov (.t 0)),
 .op (some 148) none (.mov (.t 0)),
 .op (some 149) none (.mov (.t 0)),
 .op (some 150) none (.mov (.t 13)),
 .op (some 150) none (.freeze 3 true none (.t 150)),
 .op (some 151) none (.mov (.t 11)),
 .op (some 152) none (.mov (.t 6)),
 .op (some 153) none (.nilchk (.t 147)),
 .op (some 154) none (.faddr 4 (.t 153)),
 .op none none (.store 1 (.t 154) (.t 150)),
 .op (some 155) none (.nilchk (.t 148)),
 .op (some 156) none (.faddr 5 (.t 155)),
 .op none none (.store 1 (.t 156) (.t 151)),
 .op (some 157) none (.nilchk (.t 149)),
 .op (some 158) none (.faddr 6 (.t 157)),
 .op none none (.store 1 (.t 158) (.t 152))] [])
 (.seq (.items [.op (some 159) none (.mov (.t 6)),
 .op (some 4) none (.mov (.t 159)),
 .op (some 5) none (.mov (.c (.int .i64 0)))] [])
 (.ret))))))))))))),
 [.tmp 4, .tmp 5], 2, false, false⟩
def a59 : Ann := { prom := [], base := [], hps := [(14, 6)], frz := [(26, 3, none)], keepArgs := false, keepRes := false, ntmps := 160 }

/-- lapstone/store.show -/
def i60 : IRFn :=
 ⟨.seq (.items [.op (some 2) none (.mov (.c (.str [])))] [])
 (.seq (.items [.call (some 8) none (.fn 55) [],
 .op (some 3) none (.mov (.t 8))] [])
 (.seq (.items [.op (some 9) none (.mov (.t 3)),
 .op (some 10) none (.mov (.t 0)),
 .op (some 11) none (.lenV (.t 10)),
 .op (some 12) none (.cvI .u64 (.t 11)),
 .op (some 13) none (.bslice false (.int .u64 0) 1 [(0, (.t 12))]),
 .call (some 14) none (.fn 56) [(.t 9), (.t 13)]] [])
 (.seq (.seq (.items [.op (some 15) none (.mov (.t 0)),
 .op (some 16) none (.lenV (.t 15)),
 .op (some 17) none (.mov (.c (.int .i64 0)))] [])
 (.block 0
 (.loop
 (.seq (.items [.op (some 18) none (.bin .lss (.t 17) (.t 16))] [])
 (.seq (.cond (.t 18)
 (.skip)
 (.exit 0))
 (.seq (.block 1
 (.seq (.seq (.items [] [5])
 (.items [.op (some 19) none (.iaddr 3 (.t 15) (.t 17)),
 .op (some 20) none (.load (some 3) (.t 19)),
 .op (some 5) none (.lalloc (.agg [(.str []), (.str []), (.bool false)])),
 .op none none (.store 3 (.l 5) (.t 20))] []))
 (.seq (.items [.op (some 21) none (.mov (.t 3)),
 .op (some 22) none (.faddr 0 (.l 5)),
 .op (some 23) none (.load none (.s 22 5)),
 .op (some 24) none (.bslice false (.str []) 1 [(0, (.t 23))]),
 .call (some 25) none (.fn 96) [(.t 21), (.t 24)]] [22])
 (.seq (.items [.op (some 26) none (.mov (.t 3)),
 .op (some 27) none (.faddr 2 (.l 5)),
 .op (some 28) none (.load none (.s 27 5)),
 .call (some 29) none (.fn 97) [(.t 26), (.t 28)]] [27])
 (.seq (.items [.op (some 30) none (.faddr 2 (.l 5)),
 .op (some 31) none (.load none (.s 30 5)),
 .op (some 32) none (.un .not (.t 31))] [30])
 (.cond (.t 32)
 (.items [.op (some 33) none (.mov (.t 3)),
 .op (some 34) none (.faddr 1 (.l 5)),
 .op (some 35) none (.load none (.s 34 5)),
 .op (some 36) none (.bslice false (.str []) 1 [(0, (.t 35))]),
 .call (some 37) none (.fn 96) [(.t 33), (.t 36)]] [34])
 (.skip)))))))
 (.items [.op (some 38) none (.bin .add (.t 17) (.c (.int .i64 1))),
 .op (some 17) none (.mov (.t 38))] [])))))))
 (.seq (.items [.op (some 40) none (.mov (.t 3)),
 .call (some 41) none (.fn 57) [(.t 40)],
 .op (some 39) none (.mov (.t 41)),
 .op (some 42) none (.extract (.t 39) 0),
 .op (some 43) none (.extract (.t 39) 1),
 .op (some 6) none (.mov (.t 42)),
 .op (some 7) none (.mov (.t 43))] [])
 (.seq (.items [.op (some 44) none (.mov (.t 6)),
 .op (some 45) none (.cvS (.t 44)),
 .op (some 2) none (.mov (.t 45))] [])
 (.ret)))))),
 [.tmp 2], 1, false, false⟩
def a60 : Ann := { prom := [5], base := [(22, 5), (27, 5), (30, 5), (34, 5)], hps := [], frz := [], keepArgs := false, keepRes := false, ntmps := 46 }

/-- (*lapstone/disk.Disk).Sync -/
def i61 : IRFn :=
 ⟨.items [.op (some 2) none (.mov (.t 0)),
 .op (some 3) none (.mov (.t 0)),
 .op (some 4) none (.mov (.t 0)),
 .op (some 5) none (.nilchk (.t 4)),
 .op (some 6) none (.faddr 2 (.t 5)),
 .op (some 7) none (.load none (.t 6)),
 .call (some 8) none (.fn 37) [(.t 7)],
 .op (some 9) none (.nilchk (.t 2)),
 .op (some 10) none (.faddr 3 (.t 9)),
 .op none none (.store 1 (.t 10) (.t 8)),
 .op (some 11) none (.nilchk (.t 3)),
 .op (some 12) none (.faddr 4 (.t 11)),
 .op none none (.store 1 (.t 12) (.c .nils))] [],
 [], 1, false, false⟩
def a61 : Ann := { prom := [], base := [], hps := [], frz := [], keepArgs := false, keepRes := false, ntmps := 13 }

/-- lapstone/meta.Open -/
def i62 : IRFn :=
 ⟨.seq (.items [.op (some 4) none (.mov (.c .nilp)),
 .op (some 5) none (.mov (.c (.str []))),
 .op (some 6) none (.mov (.c (.int .i64 0)))] [])
 (.seq (.seq (.items [.op (some 12) none (.mov (.t 1)),
 .op (some 13) none (.bin .lss (.t 12) (.c (.int .i64 0))),
 .op (some 14) none (.mov (.t 13)),
 .op (some 15) (some (14, false)) (.mov (.t 1)),
 .op (some 16) (some (14, false)) (.bin .gtr (.t 15) (.c (.int .i64 65534))),
 .op (some 17) none (.pick (.t 14) (.c (.bool true)) (.t 16))] [])
 (.cond (.t 17)
 (.seq (.items [.op (some 4) none (.mov (.c .nilp)),
 .op (some 5) none (.mov (.c (.str []))),
 .op (some 6) none (.mov (.c (.int .i64 122)))] [])
 (.ret))
 (.skip)))
 (.seq (.items [.op (some 18) none (.mov (.t 0)),
 .op (some 19) none (.mov (.t 1)),
 .op (some 20) none (.build [.nilp, (.int .i64 0), (.int .u64 0), (.int .i64 0)] [(0, 1, (.t 18)), (1, 1, (.t 19)), (3, 1, (.c (.int .i64 1)))]),
 .op (some 21) none (.hbox (.t 20)),
 .op (some 7) none (.mov (.t 21))] [])
 (.seq (.items [.op (some 8) none (.mov (.c (.str [])))] [])
 (.seq (.seq (.items [.op (some 22) none (.mov (.c (.int .i64 0)))] [])
 (.block 0
 (.loop
 (.seq (.items [.op (some 23) none (.bin .lss (.t 22) (.c (.int .i64 2)))] [])
 (.seq (.cond (.t 23)
 (.skip)
 (.exit 0))
 (.seq (.block 1
 (.seq (.items [.op (some 24) none (.mov (.t 22)),
 .op (some 9) none (.mov (.t 24))] [])
 (.seq (.seq (.items [] [10])
 (.items [.op (some 26) none (.mov (.t 0)),
 .op (some 27) none (.mov (.t 1)),
 .op (some 28) none (.mov (.t 9)),
 .op (some 29) none (.bin .add (.t 27) (.t 28)),
 .call (some 30) none (.fn 98) [(.t 26), (.t 29)],
 .op (some 25) none (.mov (.t 30)),
 .op (some 31) none (.extract (.t 25) 0),
 .op (some 32) none (.extract (.t 25) 1),
 .op (some 10) none (.lalloc (.agg [(.int .u64 0), (.str [])])),
 .op none none (.store 2 (.l 10) (.t 31)),
 .op (some 11) none (.mov (.t 32))] []))
 (.seq (.items [.op (some 33) none (.mov (.t 11)),
 .op (some 34) none (.mov (.t 33)),
 .op (some 35) (some (34, true)) (.faddr 0 (.l 10)),
 .op (some 36) (some (34, true)) (.load none (.s 35 10)),
 .op (some 37) (some (34, true)) (.mov (.t 7)),
 .op (some 38) (some (34, true)) (.nilchk (.t 37)),
 .op (some 39) (some (34, true)) (.faddr 2 (.t 38)),
 .op (some 40) (some (34, true)) (.load none (.t 39)),
 .op (some 41) (some (34, true)) (.bin .gtr (.t 36) (.t 40)),
 .op (some 42) none (.pick (.t 34) (.t 41) (.c (.bool false)))] [35])
 (.cond (.t 42)
 (.items [.op (some 43) none (.mov (.t 7)),
 .op (some 44) none (.mov (.t 7)),
 .op (some 45) none (.faddr 0 (.l 10)),
 .op (some 46) none (.load none (.s 45 10)),
 .op (some 47) none (.mov (.t 9)),
 .op (some 48) none (.faddr 1 (.l 10)),
 .op (some 49) none (.load none (.s 48 10)),
 .op (some 50) none (.nilchk (.t 43)),
 .op (some 51) none (.faddr 2 (.t 50)),
 .op none none (.store 1 (.t 51) (.t 46)),
 .chk 48 none (.faddr 1 (.l 10)),
 .chk 49 none (.load none (.s 48 10)),
 .op (some 52) none (.nilchk (.t 44)),
 .op (some 53) none (.faddr 3 (.t 52)),
 .op none none (.store 1 (.t 53) (.t 47)),
 .chk 48 none (.faddr 1 (.l 10)),
 .chk 49 none (.load none (.s 48 10)),
 .op (some 8) none (.mov (.t 49))] [45, 48])
 (.skip))))))
 (.items [.op (some 54) none (.bin .add (.t 22) (.c (.int .i64 1))),
 .op (some 22) none (.mov (.t 54))] [])))))))
 (.seq (.seq (.items [.op (some 55) none (.mov (.t 7)),
 .op (some 56) none (.nilchk (.t 55)),
 .op (some 57) none (.faddr 2 (.t 56)),
 .op (some 58) none (.load none (.t 57)),
 .op (some 59) none (.bin .eql (.t 58) (.c (.int .u64 0)))] [])
 (.cond (.t 59)
 (.seq (.items [.op (some 60) none (.mov (.t 7)),
 .op (some 4) none (.mov (.t 60)),
 .op (some 5) none (.mov (.c (.str []))),
 .op (some 6) none (.mov (.c (.int .i64 121)))] [])
 (.ret))
 (.skip)))
 (.seq (.items [.op (some 61) none (.mov (.t 7)),
 .op (some 62) none (.mov (.t 8)),
 .op (some 4) none (.mov (.t 61)),
 .op (some 5) none (.mov (.t 62)),
 .op (some 6) none (.mov (.c (.int .i64 0)))] [])
 (.ret))))))),
 [.tmp 4, .tmp 5, .tmp 6], 2, false, false⟩
def a62 : Ann := { prom := [10], base := [(35, 10), (45, 10), (48, 10)], hps := [], frz := [], keepArgs := false, keepRes := false, ntmps := 63 }

/-- (*lapstone/pager.Pager).Pages -/
def i64 : IRFn :=
 ⟨.seq (.items [.op (some 2) none (.mov (.c .nils))] [])
 (.seq (.items [.op (some 3) none (.mov (.c .nils))] [])
 (.seq (.seq (.items [.op (some 5) none (.mov (.c (.int .i64 0)))] [])
 (.block 0
 (.loop
 (.seq (.items [.op (some 6) none (.bin .lss (.t 5) (.c (.int .i64 90)))] [])
 (.seq (.cond (.t 6)
 (.skip)
 (.exit 0))
 (.seq (.block 1
 (.seq (.items [.op (some 7) none (.mov (.t 5)),
 .op (some 4) none (.mov (.t 7))] [])
 (.seq (.items [.op (some 8) none (.mov (.t 0)),
 .op (some 9) none (.mov (.t 4)),
 .call (some 10) none (.fn 101) [(.t 8), (.t 9)]] [])
 (.cond (.t 10)
 (.items [.op (some 11) none (.mov (.t 3)),
 .op (some 12) none (.mov (.t 4)),
 .op (some 13) none (.bslice false (.int .i64 0) 1 [(0, (.t 12))]),
 .op (some 14) none (.append 1 false false false (.t 11) (.t 13)),
 .op (some 3) none (.mov (.t 14))] [])
 (.skip)))))
 (.items [.op (some 15) none (.bin .add (.t 5) (.c (.int .i64 1))),
 .op (some 5) none (.mov (.t 15))] [])))))))
 (.seq (.items [.op (some 16) none (.mov (.t 3)),
 .op (some 2) none (.mov (.t 16))] [])
 (.ret)))),
 [.tmp 2], 1, false, false⟩
def a64 : Ann := { prom := [], base := [], hps := [], frz := [], keepArgs := false, keepRes := false, ntmps := 17 }

/-- (*lapstone/tree.Tree).write -/
def i65 : IRFn :=
 ⟨.seq (.seq (.items [] [5])
 (.items [.op (some 5) none (.lbox (.t 2))] []))
 (.seq (.items [.op (some 9) none (.load (some 3) (.l 5)),
 .call (some 10) none (.fn 102) [(.t 9)],
 .op (some 8) none (.mov (.t 10)),
 .op (some 11) none (.extract (.t 8) 0),
 .op (some 12) none (.extract (.t 8) 1),
 .op (some 6) none (.mov (.t 11)),
 .op (some 7) none (.mov (.t 12))] [])
 (.items [.op (some 13) none (.mov (.t 0)),
 .op (some 14) none (.nilchk (.t 13)),
 .op (some 15) none (.faddr 0 (.t 14)),
 .op (some 16) none (.load none (.t 15)),
 .op (some 17) none (.mov (.t 1)),
 .op (some 18) none (.mov (.t 6)),
 .call (some 19) none (.fn 103) [(.t 16), (.t 17), (.t 18)]] [])),
 [], 3, false, false⟩
def a65 : Ann := { prom := [5], base := [], hps := [], frz := [], keepArgs := false, keepRes := false, ntmps := 20 }

/-- (*lapstone/tree.Tree).Check -/
def i66 : IRFn :=
 ⟨.seq (.items [.op (some 2) none (.mov (.c (.bool false)))] [])
 (.seq (.items [.op (some 18) none (.build [(.int .i64 0), (.int .i64 0), (.str []), (.str []), (.bool false)] [(4, 1, (.c (.bool true)))]),
 .op (some 19) none (.bslice false (.agg [(.int .i64 0), (.int .i64 0), (.str []), (.str []), (.bool false)]) 1 [(0, (.t 18))]),
 .op (some 3) none (.mov (.t 19))] [])
 (.seq (.items [.op (some 4) none (.mov (.c .nils))] [])
 (.seq (.items [.op (some 5) none (.mov (.c .nils))] [])
 (.seq (.items [.op (some 20) none .mkmap,
 .op (some 6) none (.mov (.t 20)),
 .op (some 7) none (.mov (.c (.int .i64 0)))] [])
 (.seq (.block 0
 (.loop
 (.seq (.seq (.items [.op (some 21) none (.mov (.t 3)),
 .op (some 22) none (.lenV (.t 21)),
 .op (some 23) none (.bin .gtr (.t 22) (.c (.int .i64 0)))] [])
 (.cond (.t 23)
 (.skip)
 (.exit 0)))
 (.block 1
 (.seq (.seq (.items [] [8])
 (.items [.op (some 24) none (.mov (.t 3)),
 .op (some 25) none (.mov (.t 3)),
 .op (some 26) none (.lenV (.t 25)),
 .op (some 27) none (.bin .sub (.t 26) (.c (.int .i64 1))),
 .op (some 28) none (.iaddr 5 (.t 24) (.t 27)),
 .op (some 29) none (.load (some 5) (.t 28)),
 .op (some 8) none (.lalloc (.agg [(.int .i64 0), (.int .i64 0), (.str []), (.str []), (.bool false)])),
 .op none none (.store 5 (.l 8) (.t 29))] []))
 (.seq (.items [.op (some 30) none (.mov (.t 3)),
 .op (some 31) none (.mov (.t 3)),
 .op (some 32) none (.lenV (.t 31)),
 .op (some 33) none (.bin .sub (.t 32) (.c (.int .i64 1))),
 .op (some 34) none (.sliceV 5 (.t 30) none (some (.t 33)) none),
 .op (some 3) none (.mov (.t 34))] [])
 (.seq (.seq (.items [] [9])
 (.items [.op (some 36) none (.mov (.t 0)),
 .op (some 37) none (.faddr 0 (.l 8)),
 .op (some 38) none (.load none (.s 37 8)),
 .call (some 39) none (.fn 104) [(.t 36), (.t 38)],
 .op (some 35) none (.mov (.t 39)),
 .op (some 40) none (.extract (.t 35) 0),
 .op (some 41) none (.extract (.t 35) 1),
 .op (some 9) none (.lalloc (.agg [(.bool false), (.int .i64 0), .nils])),
 .op none none (.store 3 (.l 9) (.t 40)),
 .op (some 10) none (.mov (.t 41))] [37]))
 (.seq (.items [.op (some 43) none (.mov (.t 6)),
 .op (some 44) none (.faddr 0 (.l 8)),
 .op (some 45) none (.load none (.s 44 8)),
 .op (some 46) none (.lookup 0 (.int .i64 0) true (.t 43) (.t 45)),
 .op (some 42) none (.mov (.t 46)),
 .op (some 47) none (.extract (.t 42) 0),
 .op (some 48) none (.extract (.t 42) 1),
 .op (some 11) none (.mov (.t 47)),
 .op (some 12) none (.mov (.t 48))] [44])
 (.seq (.items [.op (some 49) none (.mov (.t 6)),
 .op (some 50) none (.faddr 0 (.l 8)),
 .op (some 51) none (.load none (.s 50 8)),
 .op (some 52) none (.faddr 1 (.l 8)),
 .op (some 53) none (.load none (.s 52 8)),
 .op none none (.mupd 0 (.t 49) (.t 51) (.t 53))] [50, 52])
 (.seq (.seq (.items [.op (some 54) none (.mov (.t 10)),
 .op (some 55) none (.un .not (.t 54)),
 .op (some 56) none (.mov (.t 55)),
 .op (some 57) (some (56, false)) (.mov (.t 12)),
 .op (some 58) none (.pick (.t 56) (.c (.bool true)) (.t 57)),
 .op (some 59) none (.mov (.t 58)),
 .op (some 60) (some (59, false)) (.load (some 5) (.l 8)),
 .op (some 61) (some (59, false)) (.load (some 3) (.l 9)),
 .call (some 62) (some (59, false)) (.fn 105) [(.t 60), (.t 61)],
 .op (some 63) (some (59, false)) (.un .not (.t 62)),
 .op (some 64) none (.pick (.t 59) (.c (.bool true)) (.t 63))] [])
 (.cond (.t 64)
 (.seq (.items [.op (some 2) none (.mov (.c (.bool false)))] [])
 (.ret))
 (.skip)))
 (.seq (.seq (.items [.op (some 65) none (.faddr 0 (.l 9)),
 .op (some 66) none (.load none (.s 65 9))] [65])
 (.cond (.t 66)
 (.seq (.seq (.items [.op (some 67) none (.mov (.t 4)),
 .op (some 68) none (.lenV (.t 67)),
 .op (some 69) none (.bin .gtr (.t 68) (.c (.int .i64 0))),
 .op (some 70) none (.mov (.t 69)),
 .op (some 71) (some (70, true)) (.mov (.t 7)),
 .op (some 72) (some (70, true)) (.faddr 1 (.l 8)),
 .op (some 73) (some (70, true)) (.load none (.s 72 8)),
 .op (some 74) (some (70, true)) (.bin .neq (.t 71) (.t 73)),
 .op (some 75) none (.pick (.t 70) (.t 74) (.c (.bool false)))] [72])
 (.cond (.t 75)
 (.seq (.items [.op (some 2) none (.mov (.c (.bool false)))] [])
 (.ret))
 (.skip)))
 (.seq (.items [.op (some 76) none (.mov (.t 4)),
 .op (some 77) none (.load (some 3) (.l 9)),
 .op (some 78) none (.bslice false (.agg [(.bool false), (.int .i64 0), .nils]) 1 [(0, (.t 77))]),
 .op (some 80) none (.mov (.t 5)),
 .op (some 81) none (.faddr 0 (.l 8)),
 .op (some 82) none (.load none (.s 81 8)),
 .op (some 83) none (.bslice false (.int .i64 0) 1 [(0, (.t 82))]),
 .op (some 85) none (.faddr 1 (.l 8)),
 .op (some 86) none (.load none (.s 85 8)),
 .op (some 79) none (.append 3 true false false (.t 76) (.t 78)),
 .chk 81 none (.faddr 0 (.l 8)),
 .chk 82 none (.load none (.s 81 8)),
 .chk 85 none (.faddr 1 (.l 8)),
 .chk 86 none (.load none (.s 85 8)),
 .op (some 84) none (.append 1 false false false (.t 80) (.t 83)),
 .chk 85 none (.faddr 1 (.l 8)),
 .chk 86 none (.load none (.s 85 8)),
 .op (some 4) none (.mov (.t 79)),
 .chk 85 none (.faddr 1 (.l 8)),
 .chk 86 none (.load none (.s 85 8)),
 .op (some 5) none (.mov (.t 84)),
 .chk 85 none (.faddr 1 (.l 8)),
 .chk 86 none (.load none (.s 85 8)),
 .op (some 7) none (.mov (.t 86))] [81, 85])
 (.exit 1)))
 (.skip)))
 (.seq (.items [.op (some 87) none (.faddr 2 (.l 9)),
 .op (some 88) none (.load none (.s 87 9)),
 .op (some 89) none (.lenV (.t 88)),
 .op (some 90) none (.bin .sub (.t 89) (.c (.int .i64 1))),
 .op (some 13) none (.mov (.t 90))] [87])
 (.block 2
 (.loop
 (.seq (.seq (.items [.op (some 91) none (.mov (.t 13)),
 .op (some 92) none (.bin .geq (.t 91) (.c (.int .i64 0)))] [])
 (.cond (.t 92)
 (.skip)
 (.exit 2)))
 (.seq (.block 3
 (.seq (.seq (.items [] [14])
 (.items [.op (some 95) none (.faddr 2 (.l 9)),
 .op (some 96) none (.load none (.s 95 9)),
 .op (some 97) none (.mov (.t 13)),
 .op (some 98) none (.iaddr 2 (.t 96) (.t 97)),
 .op (some 99) none (.load (some 2) (.t 98)),
 .op (some 101) none (.faddr 1 (.l 8)),
 .op (some 102) none (.load none (.s 101 8)),
 .op (some 103) none (.bin .add (.t 102) (.c (.int .i64 1))),
 .op (some 104) none (.faddr 2 (.l 9)),
 .op (some 105) none (.load none (.s 104 9)),
 .op (some 106) none (.mov (.t 13)),
 .op (some 107) none (.iaddr 2 (.t 105) (.t 106)),
 .op (some 108) none (.faddr 0 (.t 107)),
 .op (some 109) none (.load none (.t 108)),
 .op (some 110) none (.faddr 3 (.l 8)),
 .op (some 111) none (.load none (.s 110 8)),
 .op (some 112) none (.faddr 4 (.l 8)),
 .op (some 113) none (.load none (.s 112 8)),
 .op (some 14) none (.lalloc (.agg [(.int .i64 0), (.int .i64 0), (.str []), (.str []), (.bool false)])),
 .call (some 100) none (.fn 106) [(.t 99)],
 .chk 101 none (.faddr 1 (.l 8)),
 .chk 102 none (.load none (.s 101 8)),
 .chk 104 none (.faddr 2 (.l 9)),
 .chk 105 none (.load none (.s 104 9)),
 .chk 109 none (.load none (.t 108)),
 .chk 110 none (.faddr 3 (.l 8)),
 .chk 111 none (.load none (.s 110 8)),
 .chk 112 none (.faddr 4 (.l 8)),
 .chk 113 none (.load none (.s 112 8)),
 .chk 14 none (.lalloc (.agg [(.int .i64 0), (.int .i64 0), (.str []), (.str []), (.bool false)])),
 .op (some 114) none (.build [(.int .i64 0), (.int .i64 0), (.str []), (.str []), (.bool false)] [(0, 1, (.t 100)), (1, 1, (.t 103)), (2, 1, (.t 109)), (3, 1, (.t 111)), (4, 1, (.t 113))]),
 .op none none (.store 5 (.l 14) (.t 114))] [95, 101, 104, 110, 112]))
 (.seq (.seq (.items [.op (some 115) none (.mov (.t 13)),
 .op (some 116) none (.bin .add (.t 115) (.c (.int .i64 1))),
 .op (some 117) none (.faddr 2 (.l 9)),
 .op (some 118) none (.load none (.s 117 9)),
 .op (some 119) none (.lenV (.t 118)),
 .op (some 120) none (.bin .lss (.t 116) (.t 119))] [117])
 (.cond (.t 120)
 (.items [.op (some 121) none (.faddr 2 (.l 9)),
 .op (some 122) none (.load none (.s 121 9)),
 .op (some 123) none (.mov (.t 13)),
 .op (some 124) none (.bin .add (.t 123) (.c (.int .i64 1))),
 .op (some 125) none (.iaddr 2 (.t 122) (.t 124)),
 .op (some 126) none (.faddr 0 (.t 125)),
 .op (some 127) none (.load none (.t 126)),
 .op (some 128) none (.faddr 3 (.l 14)),
 .op none none (.store 1 (.s 128 14) (.t 127)),
 .op (some 129) none (.faddr 4 (.l 14)),
 .op none none (.store 1 (.s 129 14) (.c (.bool false)))] [121, 128, 129])
 (.skip)))
 (.items [.op (some 130) none (.mov (.t 3)),
 .op (some 131) none (.load (some 5) (.l 14)),
 .op (some 132) none (.bslice false (.agg [(.int .i64 0), (.int .i64 0), (.str []), (.str []), (.bool false)]) 1 [(0, (.t 131))]),
 .op (some 133) none (.append 5 true false false (.t 130) (.t 132)),
 .op (some 3) none (.mov (.t 133))] []))))
 (.items [.op (some 93) none (.mov (.t 13)),
 .op (some 94) none (.bin .sub (.t 93) (.c (.int .i64 1))),
 .op (some 13) none (.mov (.t 94))] [])))))))))))))))))
 (.seq (.seq (.items [.op (some 134) none (.mov (.t 4)),
 .op (some 135) none (.lenV (.t 134)),
 .op (some 136) none (.mov (.c (.int .i64 0)))] [])
 (.block 4
 (.loop
 (.seq (.items [.op (some 137) none (.bin .lss (.t 136) (.t 135))] [])
 (.seq (.cond (.t 137)
 (.skip)
 (.exit 4))
 (.seq (.block 5
 (.seq (.seq (.items [] [16])
 (.items [.op (some 138) none (.mov (.t 136)),
 .op (some 139) none (.iaddr 3 (.t 134) (.t 136)),
 .op (some 140) none (.load (some 3) (.t 139)),
 .op (some 16) none (.lalloc (.agg [(.bool false), (.int .i64 0), .nils])),
 .op (some 15) none (.mov (.t 138)),
 .op none none (.store 3 (.l 16) (.t 140))] []))
 (.seq (.items [.op (some 141) none (.mov (.t 5)),
 .op (some 142) none (.mov (.t 5)),
 .op (some 143) none (.lenV (.t 142)),
 .op (some 144) none (.mov (.t 5)),
 .op (some 145) none (.lenV (.t 144)),
 .op (some 146) none (.sliceV 1 (.t 141) (some (.c (.int .i64 1))) (some (.t 143)) (some (.t 145))),
 .op (some 147) none (.bslice false (.int .i64 0) 1 [(0, (.c (.int .i64 0)))]),
 .op (some 148) none (.append 1 false false false (.t 146) (.t 147)),
 .op (some 149) none (.mov (.t 15)),
 .op (some 150) none (.iaddr 1 (.t 148) (.t 149)),
 .op (some 151) none (.load none (.t 150)),
 .op (some 17) none (.mov (.t 151))] [])
 (.seq (.items [.op (some 152) none (.faddr 1 (.l 16)),
 .op (some 153) none (.load none (.s 152 16)),
 .op (some 154) none (.mov (.t 17)),
 .op (some 155) none (.bin .neq (.t 153) (.t 154))] [152])
 (.cond (.t 155)
 (.seq (.items [.op (some 2) none (.mov (.c (.bool false)))] [])
 (.ret))
 (.skip))))))
 (.items [.op (some 156) none (.bin .add (.t 136) (.c (.int .i64 1))),
 .op (some 136) none (.mov (.t 156))] [])))))))
 (.seq (.items [.op (some 157) none (.mov (.t 6)),
 .op (some 158) none (.lenM (.t 157)),
 .op (some 159) none (.mov (.t 0)),
 .op (some 160) none (.nilchk (.t 159)),
 .op (some 161) none (.faddr 0 (.t 160)),
 .op (some 162) none (.load none (.t 161)),
 .call (some 163) none (.fn 64) [(.t 162)],
 .op (some 164) none (.lenV (.t 163)),
 .op (some 165) none (.bin .eql (.t 158) (.t 164)),
 .op (some 2) none (.mov (.t 165))] [])
 (.ret)))))))),
 [.tmp 2], 1, false, false⟩
def a66 : Ann := { prom := [8, 9, 14, 16], base := [(37, 8), (44, 8), (50, 8), (52, 8), (65, 9), (72, 8), (81, 8), (85, 8), (87, 9), (95, 9), (101, 8), (104, 9), (110, 8), (112, 8), (117, 9), (121, 9), (128, 14), (129, 14), (152, 16)], hps := [], frz := [], keepArgs := false, keepRes := false, ntmps := 166 }

end Go.AM.J
