/- Own work. This text shows: functions of the program, as the machine has them, second half. -/
import Derived.Test.YtcipamnhmeplkaaGreatDoorAm1
set_option linter.unusedVariables false
set_option maxRecDepth 10000
namespace Go.AM.J
open Go Go.AM
/-- (*lapstone/wal.Log).look -/
def i67 : IRFn :=
 ⟨.seq (.items [.op (some 2) none (.mov (.c .nils))] [])
 (.seq (.items [.op (some 3) none (.mov (.c .nils))] [])
 (.seq (.seq (.items [.op (some 11) none (.mov (.t 0)),
 .op (some 12) none (.nilchk (.t 11)),
 .op (some 13) none (.faddr 2 (.t 12)),
 .op (some 14) none (.load none (.t 13)),
 .op (some 15) none (.mov (.c (.int .i64 0)))] [])
 (.block 0
 (.loop
 (.seq (.items [.op (some 16) none (.bin .lss (.t 15) (.t 14))] [])
 (.seq (.cond (.t 16)
 (.skip)
 (.exit 0))
 (.seq (.block 1
 (.seq (.items [.op (some 17) none (.mov (.t 15)),
 .op (some 4) none (.mov (.t 17))] [])
 (.seq (.items [.op (some 18) none (.mov (.t 0)),
 .op (some 19) none (.mov (.t 4)),
 .call (some 20) none (.fn 107) [(.t 18), (.t 19)],
 .op (some 5) none (.mov (.t 20))] [])
 (.seq (.seq (.items [] [6])
 (.items [.op (some 22) none (.mov (.t 5)),
 .call (some 23) none (.fn 108) [(.t 22)],
 .op (some 21) none (.mov (.t 23)),
 .op (some 24) none (.extract (.t 21) 0),
 .op (some 25) none (.extract (.t 21) 1),
 .op (some 26) none (.extract (.t 21) 2),
 .op (some 6) none (.lalloc (.agg [(.int .u64 0), (.str [])])),
 .op none none (.store 2 (.l 6) (.t 24)),
 .op (some 7) none (.mov (.t 25)),
 .op (some 8) none (.mov (.t 26))] []))
 (.seq (.seq (.items [.op (some 27) none (.mov (.t 8)),
 .op (some 28) none (.un .not (.t 27)),
 .op (some 29) none (.mov (.t 28)),
 .op (some 30) (some (29, false)) (.faddr 1 (.l 6)),
 .op (some 31) (some (29, false)) (.load none (.s 30 6)),
 .op (some 32) (some (29, false)) (.bin .neq (.t 31) (.c (.str [115, 101, 103, 109, 101, 110, 116]))),
 .op (some 33) none (.pick (.t 29) (.c (.bool true)) (.t 32))] [30])
 (.cond (.t 33)
 (.exit 1)
 (.skip)))
 (.seq (.items [.op (some 35) none (.mov (.t 5)),
 .op (some 36) none (.mov (.t 7)),
 .op (some 37) none (.sliceV 1 (.t 35) (some (.t 36)) none none),
 .op (some 38) none (.faddr 0 (.l 6)),
 .op (some 39) none (.load none (.s 38 6)),
 .call (some 40) none (.fn 109) [(.t 37), (.t 39)],
 .op (some 34) none (.mov (.t 40)),
 .op (some 41) none (.extract (.t 34) 0),
 .op (some 42) none (.extract (.t 34) 1),
 .op (some 9) none (.mov (.t 41)),
 .op (some 10) none (.mov (.t 42))] [38])
 (.items [.op (some 43) none (.mov (.t 3)),
 .op (some 44) none (.mov (.t 4)),
 .op (some 45) none (.faddr 0 (.l 6)),
 .op (some 46) none (.load none (.s 45 6)),
 .op (some 47) none (.mov (.t 9)),
 .op (some 48) none (.lenV (.t 47)),
 .op (some 49) none (.cvI .u64 (.t 48)),
 .op (some 50) none (.build [(.int .i64 0), (.int .u64 0), (.int .u64 0)] [(0, 1, (.t 44)), (1, 1, (.t 46)), (2, 1, (.t 49))]),
 .op (some 51) none (.mov (.t 9)),
 .op (some 52) none (.build [(.int .i64 0), (.int .u64 0), (.int .u64 0), .nils] [(0, 3, (.t 50)), (3, 1, (.t 51))]),
 .op (some 53) none (.bslice false (.agg [(.int .i64 0), (.int .u64 0), (.int .u64 0), .nils]) 1 [(0, (.t 52))]),
 .op (some 54) none (.append 4 true false false (.t 43) (.t 53)),
 .op (some 3) none (.mov (.t 54))] [45])))))))
 (.items [.op (some 55) none (.bin .add (.t 15) (.c (.int .i64 1))),
 .op (some 15) none (.mov (.t 55))] [])))))))
 (.seq (.items [.op (some 56) none (.mov (.t 3)),
 .op (some 2) none (.mov (.t 56))] [])
 (.ret)))),
 [.tmp 2], 1, false, false⟩
def a67 : Ann := { prom := [6], base := [(30, 6), (38, 6), (45, 6)], hps := [], frz := [], keepArgs := false, keepRes := false, ntmps := 57 }

/-- (*lapstone/wal.Log).take -/
def i68 : IRFn :=
 ⟨.seq (.seq (.items [] [4])
 (.items [.op (some 4) none (.lbox (.t 1)),
 .op (some 6) none (.mov (.c .nils))] []))
 (.seq (.items [.op (some 10) none (.mov (.t 0)),
 .op (some 11) none (.mov (.t 0)),
 .op (some 12) none (.nilchk (.t 11)),
 .op (some 13) none (.faddr 4 (.t 12)),
 .op (some 14) none (.load none (.t 13)),
 .op (some 15) none (.faddr 0 (.l 4)),
 .op (some 16) none (.load (some 3) (.s 15 4)),
 .op (some 17) none (.bslice false (.agg [(.int .i64 0), (.int .u64 0), (.int .u64 0)]) 1 [(0, (.t 16))]),
 .op (some 18) none (.append 3 true false false (.t 14) (.t 17)),
 .op (some 19) none (.nilchk (.t 10)),
 .op (some 20) none (.faddr 4 (.t 19)),
 .op none none (.store 1 (.t 20) (.t 18))] [15])
 (.seq (.items [.op (some 21) none (.mov (.t 0)),
 .op (some 22) none (.faddr 0 (.l 4)),
 .op (some 23) none (.faddr 1 (.s 22 4)),
 .op (some 24) none (.load none (.s 23 4)),
 .op (some 25) none (.faddr 0 (.l 4)),
 .op (some 26) none (.faddr 2 (.s 25 4)),
 .op (some 27) none (.load none (.s 26 4)),
 .op (some 28) none (.bin .add (.t 24) (.t 27)),
 .op (some 29) none (.bin .sub (.t 28) (.c (.int .u64 1))),
 .op (some 30) none (.nilchk (.t 21)),
 .op (some 31) none (.faddr 6 (.t 30)),
 .op none none (.store 1 (.t 31) (.t 29))] [22, 23, 25, 26])
 (.seq (.items [.op (some 7) none (.mov (.c .nils))] [])
 (.seq (.seq (.items [.op (some 32) none (.faddr 3 (.l 4)),
 .op (some 33) none (.load none (.s 32 4)),
 .op (some 34) none (.lenV (.t 33)),
 .op (some 35) none (.mov (.c (.int .i64 0)))] [32])
 (.block 0
 (.loop
 (.seq (.items [.op (some 36) none (.bin .lss (.t 35) (.t 34))] [])
 (.seq (.cond (.t 36)
 (.skip)
 (.exit 0))
 (.seq (.block 1
 (.seq (.seq (.items [] [9])
 (.items [.op (some 37) none (.iaddr 2 (.t 33) (.t 35)),
 .op (some 38) none (.load (some 2) (.t 37)),
 .op (some 9) none (.lalloc (.agg [(.int .u64 0), (.str [])])),
 .op none none (.store 2 (.l 9) (.t 38))] []))
 (.seq (.items [.op (some 39) none (.faddr 0 (.l 9)),
 .op (some 40) none (.load none (.s 39 9)),
 .op (some 41) none (.mov (.t 2)),
 .op (some 42) none (.bin .gtr (.t 40) (.t 41))] [39])
 (.cond (.t 42)
 (.items [.op (some 43) none (.mov (.t 7)),
 .op (some 44) none (.load (some 2) (.l 9)),
 .op (some 45) none (.bslice false (.agg [(.int .u64 0), (.str [])]) 1 [(0, (.t 44))]),
 .op (some 46) none (.append 2 true false false (.t 43) (.t 45)),
 .op (some 7) none (.mov (.t 46))] [])
 (.skip)))))
 (.items [.op (some 47) none (.bin .add (.t 35) (.c (.int .i64 1))),
 .op (some 35) none (.mov (.t 47))] [])))))))
 (.seq (.items [.op (some 48) none (.mov (.t 7)),
 .op (some 6) none (.mov (.t 48))] [])
 (.ret)))))),
 [.tmp 6], 3, false, false⟩
def a68 : Ann := { prom := [4, 9], base := [(15, 4), (22, 4), (23, 4), (25, 4), (26, 4), (32, 4), (39, 9)], hps := [], frz := [], keepArgs := false, keepRes := false, ntmps := 49 }

/-- slices.IndexFunc[[]lapstone/wal.found,lapstone/wal.found] -/
def i69 : IRFn :=
 ⟨.seq (.items [.op (some 4) none (.mov (.c (.int .i64 0)))] [])
 (.seq (.seq (.items [.op (some 6) none (.mov (.t 0)),
 .op (some 7) none (.lenV (.t 6)),
 .op (some 8) none (.mov (.c (.int .i64 0)))] [])
 (.block 0
 (.loop
 (.seq (.items [.op (some 9) none (.bin .lss (.t 8) (.t 7))] [])
 (.seq (.cond (.t 9)
 (.skip)
 (.exit 0))
 (.seq (.block 1
 (.seq (.items [.op (some 10) none (.mov (.t 8)),
 .op (some 5) none (.mov (.t 10))] [])
 (.seq (.items [.op (some 11) none (.mov (.t 1)),
 .op (some 12) none (.mov (.t 0)),
 .op (some 13) none (.mov (.t 5)),
 .op (some 14) none (.iaddr 4 (.t 12) (.t 13)),
 .op (some 15) none (.load (some 4) (.t 14)),
 .call (some 16) none (.dyn (.t 11)) [(.t 15)]] [])
 (.cond (.t 16)
 (.seq (.items [.op (some 17) none (.mov (.t 5)),
 .op (some 4) none (.mov (.t 17))] [])
 (.ret))
 (.skip)))))
 (.items [.op (some 18) none (.bin .add (.t 8) (.c (.int .i64 1))),
 .op (some 8) none (.mov (.t 18))] [])))))))
 (.seq (.items [.op (some 4) none (.mov (.c (.int .i64 (-1))))] [])
 (.ret))),
 [.tmp 4], 2, false, false⟩
def a69 : Ann := { prom := [], base := [], hps := [], frz := [], keepArgs := false, keepRes := false, ntmps := 19 }

/-- lapstone/wal.Open$1 -/
def i70 : IRFn :=
 ⟨.seq (.seq (.items [] [2])
 (.items [.op (some 2) none (.lbox (.t 0)),
 .op (some 3) none (.mov (.c (.bool false)))] []))
 (.seq (.items [.op (some 4) none (.faddr 0 (.l 2)),
 .op (some 5) none (.faddr 1 (.s 4 2)),
 .op (some 6) none (.load none (.s 5 2)),
 .op (some 7) none (.load none (.t 1)),
 .op (some 8) none (.nilchk (.t 7)),
 .op (some 9) none (.faddr 6 (.t 8)),
 .op (some 10) none (.load none (.t 9)),
 .op (some 11) none (.bin .add (.t 10) (.c (.int .u64 1))),
 .op (some 12) none (.bin .eql (.t 6) (.t 11)),
 .op (some 13) none (.mov (.t 12)),
 .op (some 14) (some (13, true)) (.load none (.t 1)),
 .op (some 15) (some (13, true)) (.faddr 0 (.l 2)),
 .op (some 16) (some (13, true)) (.faddr 0 (.s 15 2)),
 .op (some 17) (some (13, true)) (.load none (.s 16 2)),
 .call (some 18) (some (13, true)) (.fn 71) [(.t 14), (.t 17)],
 .op (some 19) (some (13, true)) (.un .not (.t 18)),
 .op (some 20) none (.pick (.t 13) (.t 19) (.c (.bool false))),
 .op (some 3) none (.mov (.t 20))] [4, 5, 15, 16])
 (.ret)),
 [.tmp 3], 2, false, false⟩
def a70 : Ann := { prom := [2], base := [(4, 2), (5, 2), (15, 2), (16, 2)], hps := [], frz := [], keepArgs := false, keepRes := false, ntmps := 21 }

/-- (*lapstone/wal.Log).used -/
def i71 : IRFn :=
 ⟨.seq (.items [.op (some 3) none (.hbox (.t 1)),
 .op (some 4) none (.mov (.c (.bool false)))] [])
 (.seq (.items [.op (some 5) none (.mov (.t 0)),
 .op (some 6) none (.nilchk (.t 5)),
 .op (some 7) none (.faddr 4 (.t 6)),
 .op (some 8) none (.load none (.t 7)),
 .op (some 9) none (.mkfn (.func 111) [] [(.t 3)]),
 .call (some 10) none (.fn 110) [(.t 8), (.t 9)],
 .op (some 4) none (.mov (.t 10))] [])
 (.ret)),
 [.tmp 4], 2, false, false⟩
def a71 : Ann := { prom := [], base := [], hps := [], frz := [], keepArgs := false, keepRes := false, ntmps := 11 }

/-- (*lapstone/wal.Log).free -/
def i72 : IRFn :=
 ⟨.seq (.items [.op (some 5) none (.mov (.t 0)),
 .op (some 6) none (.nilchk (.t 5)),
 .op (some 7) none (.faddr 3 (.t 6)),
 .op (some 8) none (.load none (.t 7)),
 .op (some 9) none (.mov (.c (.int .i64 0)))] [])
 (.block 0
 (.loop
 (.seq (.items [.op (some 10) none (.bin .lss (.t 9) (.t 8))] [])
 (.seq (.cond (.t 10)
 (.skip)
 (.exit 0))
 (.seq (.block 1
 (.seq (.items [.op (some 11) none (.mov (.t 9)),
 .op (some 4) none (.mov (.t 11))] [])
 (.items [.op (some 12) none (.mov (.t 0)),
 .op (some 13) none (.nilchk (.t 12)),
 .op (some 14) none (.faddr 0 (.t 13)),
 .op (some 15) none (.load none (.t 14)),
 .op (some 16) none (.mov (.t 0)),
 .op (some 17) none (.nilchk (.t 16)),
 .op (some 18) none (.faddr 1 (.t 17)),
 .op (some 19) none (.load none (.t 18)),
 .op (some 20) none (.mov (.t 1)),
 .op (some 21) none (.mov (.t 0)),
 .op (some 22) none (.nilchk (.t 21)),
 .op (some 23) none (.faddr 3 (.t 22)),
 .op (some 24) none (.load none (.t 23)),
 .op (some 25) none (.bin .mul (.t 20) (.t 24)),
 .op (some 26) none (.bin .add (.t 19) (.t 25)),
 .op (some 27) none (.mov (.t 4)),
 .op (some 28) none (.bin .add (.t 26) (.t 27)),
 .call (some 29) none (.fn 112) [(.t 15), (.t 28)]] [])))
 (.items [.op (some 30) none (.bin .add (.t 9) (.c (.int .i64 1))),
 .op (some 9) none (.mov (.t 30))] [])))))),
 [], 2, false, false⟩
def a72 : Ann := { prom := [], base := [], hps := [], frz := [], keepArgs := false, keepRes := false, ntmps := 31 }

/-- (*lapstone/code.Reader).Count -/
def i73 : IRFn :=
 ⟨.seq (.items [.op (some 4) none (.mov (.c (.int .i64 0)))] [])
 (.seq (.items [.op (some 9) none (.mov (.t 0)),
 .op (some 10) none (.mov (.t 0)),
 .op (some 11) none (.mkfn (.func 86) [(.t 10)] []),
 .op (some 12) none (.mov (.t 1)),
 .call (some 13) none (.fn 113) [(.t 9), (.t 11), (.t 12)],
 .op (some 8) none (.mov (.t 13)),
 .op (some 14) none (.extract (.t 8) 0),
 .op (some 15) none (.extract (.t 8) 1),
 .op (some 16) none (.extract (.t 8) 2),
 .op (some 5) none (.mov (.t 14)),
 .op (some 6) none (.mov (.t 15)),
 .op (some 7) none (.mov (.t 16))] [])
 (.seq (.seq (.items [.op (some 17) none (.mov (.t 7))] [])
 (.cond (.t 17)
 (.items [.op (some 18) none (.mov (.t 0)),
 .op (some 19) none (.mov (.t 6)),
 .op (some 20) none (.nilchk (.t 18)),
 .op (some 21) none (.faddr 0 (.t 20)),
 .op none none (.store 1 (.t 21) (.t 19))] [])
 (.skip)))
 (.seq (.items [.op (some 22) none (.mov (.t 5)),
 .op (some 4) none (.mov (.t 22))] [])
 (.ret)))),
 [.tmp 4], 2, false, false⟩
def a73 : Ann := { prom := [], base := [], hps := [], frz := [], keepArgs := false, keepRes := false, ntmps := 23 }

/-- (*lapstone/code.Reader).Text -/
def i74 : IRFn :=
 ⟨.seq (.items [.op (some 2) none (.mov (.c (.str [])))] [])
 (.seq (.items [.op (some 7) none (.mov (.t 0)),
 .op (some 8) none (.mov (.t 0)),
 .op (some 9) none (.mkfn (.func 86) [(.t 8)] []),
 .call (some 10) none (.fn 113) [(.t 7), (.t 9), (.c (.int .i64 65536))],
 .op (some 6) none (.mov (.t 10)),
 .op (some 11) none (.extract (.t 6) 0),
 .op (some 12) none (.extract (.t 6) 1),
 .op (some 13) none (.extract (.t 6) 2),
 .op (some 3) none (.mov (.t 11)),
 .op (some 4) none (.mov (.t 12)),
 .op (some 5) none (.mov (.t 13))] [])
 (.seq (.seq (.items [.op (some 14) none (.mov (.t 5)),
 .op (some 15) none (.mov (.t 14)),
 .op (some 16) (some (15, true)) (.mov (.t 3)),
 .op (some 17) (some (15, true)) (.mov (.t 4)),
 .op (some 18) (some (15, true)) (.lenV (.t 17)),
 .op (some 19) (some (15, true)) (.bin .gtr (.t 16) (.t 18)),
 .op (some 20) none (.pick (.t 15) (.t 19) (.c (.bool false)))] [])
 (.cond (.t 20)
 (.items [.op (some 21) none (.mov (.t 0)),
 .call (some 22) none (.fn 114) [(.t 21), (.c (.int .i64 30))],
 .op (some 5) none (.mov (.t 22))] [])
 (.skip)))
 (.seq (.seq (.items [.op (some 23) none (.mov (.t 5)),
 .op (some 24) none (.un .not (.t 23))] [])
 (.cond (.t 24)
 (.seq (.items [.op (some 2) none (.mov (.c (.str [])))] [])
 (.ret))
 (.skip)))
 (.seq (.items [.op (some 25) none (.mov (.t 0)),
 .op (some 26) none (.mov (.t 4)),
 .op (some 27) none (.mov (.t 3)),
 .op (some 28) none (.sliceV 1 (.t 26) (some (.t 27)) none none),
 .op (some 29) none (.nilchk (.t 25)),
 .op (some 30) none (.faddr 0 (.t 29)),
 .op none none (.store 1 (.t 30) (.t 28))] [])
 (.seq (.items [.op (some 31) none (.mov (.t 4)),
 .op (some 32) none (.mov (.t 3)),
 .op (some 33) none (.sliceV 1 (.t 31) none (some (.t 32)) none),
 .op (some 34) none (.cvS (.t 33)),
 .op (some 2) none (.mov (.t 34))] [])
 (.ret)))))),
 [.tmp 2], 1, false, false⟩
def a74 : Ann := { prom := [], base := [], hps := [], frz := [], keepArgs := false, keepRes := false, ntmps := 35 }

/-- (*lapstone/code.Reader).Flag -/
def i75 : IRFn :=
 ⟨.seq (.items [.op (some 1) none (.hbox (.t 0)),
 .op (some 2) none (.mov (.c (.bool false)))] [])
 (.seq (.items [.op (some 5) none (.mkfn (.func 115) [] [(.t 1)]),
 .op (some 3) none (.mov (.t 5))] [])
 (.seq (.block 0
 (.seq (.items [.op (some 7) none (.load none (.t 1)),
 .op (some 8) none (.nilchk (.t 7)),
 .op (some 9) none (.faddr 1 (.t 8)),
 .op (some 10) none (.load none (.t 9)),
 .op (some 11) none (.bin .neq (.t 10) (.c (.int .i64 0))),
 .op (some 6) none (.mov (.t 11))] [])
 (.cond (.t 6)
 (.seq (.items [.op (some 2) none (.mov (.c (.bool false)))] [])
 (.ret))
 (.seq (.items [.op (some 13) none (.load none (.t 1)),
 .op (some 14) none (.nilchk (.t 13)),
 .op (some 15) none (.faddr 0 (.t 14)),
 .op (some 16) none (.load none (.t 15)),
 .op (some 17) none (.lenV (.t 16)),
 .op (some 18) none (.bin .eql (.t 17) (.c (.int .i64 0))),
 .op (some 12) none (.mov (.t 18))] [])
 (.cond (.t 12)
 (.seq (.items [.op (some 19) none (.mov (.t 3)),
 .call (some 20) none (.dyn (.t 19)) [(.c (.int .i64 30))],
 .op (some 2) none (.mov (.t 20))] [])
 (.ret))
 (.seq (.items [.op (some 22) none (.load none (.t 1)),
 .op (some 23) none (.nilchk (.t 22)),
 .op (some 24) none (.faddr 0 (.t 23)),
 .op (some 25) none (.load none (.t 24)),
 .op (some 26) none (.iaddr 1 (.t 25) (.c (.int .i64 0))),
 .op (some 27) none (.load none (.t 26)),
 .op (some 28) none (.bin .gtr (.t 27) (.c (.int .u8 1))),
 .op (some 21) none (.mov (.t 28))] [])
 (.cond (.t 21)
 (.seq (.items [.op (some 29) none (.mov (.t 3)),
 .call (some 30) none (.dyn (.t 29)) [(.c (.int .i64 33))],
 .op (some 2) none (.mov (.t 30))] [])
 (.ret))
 (.skip))))))))
 (.seq (.items [.op (some 31) none (.load none (.t 1)),
 .op (some 32) none (.nilchk (.t 31)),
 .op (some 33) none (.faddr 0 (.t 32)),
 .op (some 34) none (.load none (.t 33)),
 .op (some 35) none (.iaddr 1 (.t 34) (.c (.int .i64 0))),
 .op (some 36) none (.load none (.t 35)),
 .op (some 37) none (.bin .eql (.t 36) (.c (.int .u8 1))),
 .op (some 4) none (.mov (.t 37))] [])
 (.seq (.items [.op (some 38) none (.load none (.t 1)),
 .op (some 39) none (.load none (.t 1)),
 .op (some 40) none (.nilchk (.t 39)),
 .op (some 41) none (.faddr 0 (.t 40)),
 .op (some 42) none (.load none (.t 41)),
 .op (some 43) none (.sliceV 1 (.t 42) (some (.c (.int .i64 1))) none none),
 .op (some 44) none (.nilchk (.t 38)),
 .op (some 45) none (.faddr 0 (.t 44)),
 .op none none (.store 1 (.t 45) (.t 43))] [])
 (.seq (.items [.op (some 46) none (.mov (.t 4)),
 .op (some 2) none (.mov (.t 46))] [])
 (.ret)))))),
 [.tmp 2], 1, false, false⟩
def a75 : Ann := { prom := [], base := [], hps := [], frz := [], keepArgs := false, keepRes := false, ntmps := 47 }

/-- (*lapstone/store.Store).do$1 -/
def i76 : IRFn :=
 ⟨.seq (.seq (.items [] [2])
 (.items [.op (some 2) none (.lbox (.t 0))] []))
 (.seq (.seq (.items [.op (some 3) none (.faddr 2 (.l 2)),
 .op (some 4) none (.load none (.s 3 2))] [3])
 (.cond (.t 4)
 (.seq (.items [.op (some 5) none (.load none (.t 1)),
 .op (some 6) none (.nilchk (.t 5)),
 .op (some 7) none (.faddr 0 (.t 6)),
 .op (some 8) none (.load none (.t 7)),
 .op (some 9) none (.faddr 0 (.l 2)),
 .op (some 10) none (.load none (.s 9 2)),
 .call (some 11) none (.fn 77) [(.t 8), (.t 10)]] [9])
 (.ret))
 (.skip)))
 (.items [.op (some 12) none (.load none (.t 1)),
 .op (some 13) none (.nilchk (.t 12)),
 .op (some 14) none (.faddr 0 (.t 13)),
 .op (some 15) none (.load none (.t 14)),
 .op (some 16) none (.faddr 0 (.l 2)),
 .op (some 17) none (.load none (.s 16 2)),
 .op (some 18) none (.faddr 1 (.l 2)),
 .op (some 19) none (.load none (.s 18 2)),
 .op (some 20) none (.build [(.str []), (.str [])] [(0, 1, (.t 17)), (1, 1, (.t 19))]),
 .call (some 21) none (.fn 78) [(.t 15), (.t 20)]] [16, 18])),
 [], 2, false, false⟩
def a76 : Ann := { prom := [2], base := [(3, 2), (9, 2), (16, 2), (18, 2)], hps := [], frz := [], keepArgs := false, keepRes := false, ntmps := 22 }

/-- (*lapstone/tree.Tree).Put -/
def i78 : IRFn :=
 ⟨.seq (.seq (.items [] [3])
 (.items [.op (some 3) none (.lbox (.t 1)),
 .op (some 4) none (.mov (.c (.int .i64 0)))] []))
 (.seq (.seq (.items [.op (some 9) none (.faddr 0 (.l 3)),
 .op (some 10) none (.load none (.s 9 3)),
 .op (some 11) none (.lenS (.t 10)),
 .op (some 12) none (.bin .gtr (.t 11) (.c (.int .i64 240)))] [9])
 (.cond (.t 12)
 (.seq (.items [.op (some 4) none (.mov (.c (.int .i64 100)))] [])
 (.ret))
 (.skip)))
 (.seq (.items [.op (some 13) none (.mov (.t 0)),
 .op (some 14) none (.faddr 0 (.l 3)),
 .op (some 15) none (.load none (.s 14 3)),
 .call (some 16) none (.fn 84) [(.t 13), (.t 15)],
 .op (some 5) none (.mov (.t 16))] [14])
 (.seq (.seq (.items [] [6])
 (.items [.op (some 17) none (.mov (.t 5)),
 .op (some 18) none (.mov (.t 5)),
 .op (some 19) none (.lenV (.t 18)),
 .op (some 20) none (.bin .sub (.t 19) (.c (.int .i64 1))),
 .op (some 21) none (.iaddr 5 (.t 17) (.t 20)),
 .op (some 22) none (.load (some 5) (.t 21)),
 .op (some 6) none (.lalloc (.agg [(.int .i64 0), (.int .i64 0), (.bool false), (.int .i64 0), .nils])),
 .op none none (.store 5 (.l 6) (.t 22))] []))
 (.seq (.seq (.items [] [7])
 (.items [.op (some 24) none (.faddr 2 (.l 6)),
 .op (some 25) none (.load (some 3) (.s 24 6)),
 .op (some 26) none (.load (some 2) (.l 3)),
 .call (some 27) none (.fn 118) [(.t 25), (.t 26)],
 .op (some 23) none (.mov (.t 27)),
 .op (some 28) none (.extract (.t 23) 0),
 .op (some 29) none (.extract (.t 23) 1),
 .op (some 7) none (.lalloc (.agg [(.bool false), (.int .i64 0), .nils])),
 .op none none (.store 3 (.l 7) (.t 28)),
 .op (some 8) none (.mov (.t 29))] [24]))
 (.seq (.seq (.items [.op (some 30) none (.mov (.t 8)),
 .op (some 31) none (.bin .neq (.t 30) (.c (.int .i64 0)))] [])
 (.cond (.t 31)
 (.seq (.items [.op (some 32) none (.mov (.t 8)),
 .op (some 4) none (.mov (.t 32))] [])
 (.ret))
 (.skip)))
 (.seq (.seq (.items [.op (some 33) none (.mov (.t 0)),
 .op (some 34) none (.nilchk (.t 33)),
 .op (some 35) none (.faddr 0 (.t 34)),
 .op (some 36) none (.load none (.t 35)),
 .call (some 37) none (.fn 64) [(.t 36)],
 .op (some 38) none (.lenV (.t 37)),
 .op (some 39) none (.bin .sub (.c (.int .i64 90)) (.t 38)),
 .op (some 40) none (.mov (.t 5)),
 .op (some 41) none (.lenV (.t 40)),
 .op (some 42) none (.bin .add (.t 41) (.c (.int .i64 2))),
 .op (some 43) none (.bin .lss (.t 39) (.t 42))] [])
 (.cond (.t 43)
 (.seq (.items [.op (some 4) none (.mov (.c (.int .i64 141)))] [])
 (.ret))
 (.skip)))
 (.seq (.items [.op (some 44) none (.mov (.t 0)),
 .op (some 45) none (.mov (.t 5)),
 .op (some 46) none (.mov (.t 5)),
 .op (some 47) none (.lenV (.t 46)),
 .op (some 48) none (.bin .sub (.t 47) (.c (.int .i64 1))),
 .op (some 49) none (.mov (.t 5)),
 .op (some 50) none (.lenV (.t 49)),
 .op (some 51) none (.bin .sub (.t 50) (.c (.int .i64 1))),
 .op (some 52) none (.sliceV 5 (.t 45) none (some (.t 48)) (some (.t 51))),
 .op (some 53) none (.faddr 0 (.l 6)),
 .op (some 54) none (.load none (.s 53 6)),
 .op (some 55) none (.load (some 3) (.l 7)),
 .call (some 56) none (.fn 119) [(.t 44), (.t 52), (.t 54), (.t 55)]] [53])
 (.seq (.items [.op (some 4) none (.mov (.c (.int .i64 0)))] [])
 (.ret))))))))),
 [.tmp 4], 2, false, false⟩
def a78 : Ann := { prom := [3, 6, 7], base := [(9, 3), (14, 3), (24, 6), (53, 6)], hps := [], frz := [], keepArgs := false, keepRes := false, ntmps := 57 }

/-- (*lapstone/tree.Tree).Range$1 -/
def i79 : IRFn :=
 ⟨.seq (.items [.op (some 2) none (.mov (.c (.bool false)))] [])
 (.seq (.items [.op (some 3) none (.faddr 4 (.t 0)),
 .op (some 4) none (.load none (.t 3)),
 .op (some 5) none (.bin .geq (.t 4) (.c (.int .i64 0))),
 .op (some 6) none (.mov (.t 5)),
 .op (some 7) (some (6, true)) (.load none (.t 1)),
 .op (some 8) (some (6, true)) (.lenV (.t 7)),
 .op (some 9) (some (6, true)) (.faddr 4 (.t 0)),
 .op (some 10) (some (6, true)) (.load none (.t 9)),
 .op (some 11) (some (6, true)) (.bin .geq (.t 8) (.t 10)),
 .op (some 12) none (.pick (.t 6) (.t 11) (.c (.bool false))),
 .op (some 2) none (.mov (.t 12))] [])
 (.ret)),
 [.tmp 2], 2, false, false⟩
def a79 : Ann := { prom := [], base := [], hps := [], frz := [], keepArgs := false, keepRes := false, ntmps := 13 }

/-- (*lapstone/tree.Tree).from -/
def i80 : IRFn :=
 ⟨.seq (.items [.op (some 10) none (.mov (.t 0)),
 .op (some 11) none (.mov (.t 1)),
 .call (some 12) none (.fn 84) [(.t 10), (.t 11)],
 .op (some 6) none (.mov (.t 12))] [])
 (.seq (.seq (.items [] [7])
 (.items [.op (some 13) none (.mov (.t 6)),
 .op (some 14) none (.mov (.t 6)),
 .op (some 15) none (.lenV (.t 14)),
 .op (some 16) none (.bin .sub (.t 15) (.c (.int .i64 1))),
 .op (some 17) none (.iaddr 5 (.t 13) (.t 16)),
 .op (some 18) none (.faddr 2 (.t 17)),
 .op (some 19) none (.load (some 3) (.t 18)),
 .op (some 7) none (.lalloc (.agg [(.bool false), (.int .i64 0), .nils])),
 .op none none (.store 3 (.l 7) (.t 19))] []))
 (.seq (.items [.op (some 21) none (.load (some 3) (.l 7)),
 .op (some 22) none (.mov (.t 1)),
 .call (some 23) none (.fn 85) [(.t 21), (.t 22)],
 .op (some 20) none (.mov (.t 23)),
 .op (some 24) none (.extract (.t 20) 0),
 .op (some 25) none (.extract (.t 20) 1),
 .op (some 8) none (.mov (.t 24)),
 .op (some 9) none (.mov (.t 25))] [])
 (.block 0
 (.loop
 (.seq (.block 1
 (.seq (.block 2
 (.loop
 (.seq (.seq (.items [.op (some 26) none (.mov (.t 8)),
 .op (some 27) none (.faddr 2 (.l 7)),
 .op (some 28) none (.load none (.s 27 7)),
 .op (some 29) none (.lenV (.t 28)),
 .op (some 30) none (.bin .lss (.t 26) (.t 29))] [27])
 (.cond (.t 30)
 (.skip)
 (.exit 2)))
 (.seq (.block 3
 (.seq (.items [.op (some 33) none (.mov (.t 2)),
 .op (some 34) none (.faddr 2 (.l 7)),
 .op (some 35) none (.load none (.s 34 7)),
 .op (some 36) none (.mov (.t 8)),
 .op (some 37) none (.iaddr 2 (.t 35) (.t 36)),
 .op (some 38) none (.load (some 2) (.t 37)),
 .call (some 39) none (.dyn (.t 33)) [(.t 38)],
 .op (some 40) none (.un .not (.t 39))] [34])
 (.cond (.t 40)
 (.ret)
 (.skip))))
 (.items [.op (some 31) none (.mov (.t 8)),
 .op (some 32) none (.bin .add (.t 31) (.c (.int .i64 1))),
 .op (some 8) none (.mov (.t 32))] [])))))
 (.seq (.seq (.items [.op (some 41) none (.faddr 1 (.l 7)),
 .op (some 42) none (.load none (.s 41 7)),
 .op (some 43) none (.bin .eql (.t 42) (.c (.int .i64 0)))] [41])
 (.cond (.t 43)
 (.ret)
 (.skip)))
 (.items [.op (some 45) none (.mov (.t 0)),
 .op (some 46) none (.faddr 1 (.l 7)),
 .op (some 47) none (.load none (.s 46 7)),
 .call (some 48) none (.fn 104) [(.t 45), (.t 47)],
 .op (some 44) none (.mov (.t 48)),
 .op (some 49) none (.extract (.t 44) 0),
 .op (some 50) none (.extract (.t 44) 1),
 .op none none (.store 3 (.l 7) (.t 49))] [46]))))
 (.items [.op (some 8) none (.mov (.c (.int .i64 0)))] [])))))),
 [], 3, false, false⟩
def a80 : Ann := { prom := [7], base := [(27, 7), (34, 7), (41, 7), (46, 7)], hps := [], frz := [], keepArgs := false, keepRes := false, ntmps := 51 }

/-- (*lapstone/tree.Tree).Range$2 -/
def i81 : IRFn :=
 ⟨.seq (.seq (.items [] [4])
 (.items [.op (some 4) none (.lbox (.t 0)),
 .op (some 5) none (.mov (.c (.bool false)))] []))
 (.seq (.seq (.items [.op (some 6) none (.load none (.t 1)),
 .call (some 7) none (.dyn (.t 6)) [],
 .op (some 8) none (.mov (.t 7)),
 .op (some 9) (some (8, false)) (.faddr 2 (.t 2)),
 .op (some 10) (some (8, false)) (.load none (.t 9)),
 .op (some 11) (some (8, false)) (.un .not (.t 10)),
 .op (some 12) (some (8, false)) (.mov (.t 11)),
 .op (some 13) (some (12, true)) (.faddr 0 (.l 4)),
 .op (some 14) (some (12, true)) (.load none (.s 13 4)),
 .op (some 15) (some (12, true)) (.faddr 1 (.t 2)),
 .op (some 16) (some (12, true)) (.load none (.t 15)),
 .op (some 17) (some (12, true)) (.bin .geq (.t 14) (.t 16)),
 .op (some 18) (some (8, false)) (.pick (.t 12) (.t 17) (.c (.bool false))),
 .op (some 19) none (.pick (.t 8) (.c (.bool true)) (.t 18))] [13])
 (.cond (.t 19)
 (.seq (.items [.op (some 5) none (.mov (.c (.bool false)))] [])
 (.ret))
 (.skip)))
 (.seq (.items [.op (some 20) none (.load none (.t 3)),
 .op (some 21) none (.load (some 2) (.l 4)),
 .op (some 22) none (.bslice false (.agg [(.str []), (.str [])]) 1 [(0, (.t 21))]),
 .op (some 23) none (.append 2 true false false (.t 20) (.t 22)),
 .op none none (.store 1 (.t 3) (.t 23))] [])
 (.seq (.items [.op (some 5) none (.mov (.c (.bool true)))] [])
 (.ret)))),
 [.tmp 5], 4, false, false⟩
def a81 : Ann := { prom := [4], base := [(13, 4)], hps := [], frz := [], keepArgs := false, keepRes := false, ntmps := 24 }

/-- (*lapstone/tree.Tree).way -/
def i84 : IRFn :=
 ⟨.seq (.items [.op (some 4) none (.mov (.c .nils))] [])
 (.seq (.items [.op (some 5) none (.mov (.c .nils))] [])
 (.seq (.items [.op (some 6) none (.mov (.c (.int .i64 0)))] [])
 (.block 0
 (.loop
 (.block 1
 (.seq (.seq (.items [] [7])
 (.items [.op (some 11) none (.mov (.t 0)),
 .op (some 12) none (.mov (.t 6)),
 .call (some 13) none (.fn 104) [(.t 11), (.t 12)],
 .op (some 10) none (.mov (.t 13)),
 .op (some 14) none (.extract (.t 10) 0),
 .op (some 15) none (.extract (.t 10) 1),
 .op (some 7) none (.lalloc (.agg [(.bool false), (.int .i64 0), .nils])),
 .op none none (.store 3 (.l 7) (.t 14)),
 .op (some 8) none (.mov (.t 15))] []))
 (.seq (.seq (.items [.op (some 16) none (.faddr 0 (.l 7)),
 .op (some 17) none (.load none (.s 16 7)),
 .op (some 18) none (.mov (.t 17)),
 .op (some 19) (some (18, false)) (.faddr 2 (.l 7)),
 .op (some 20) (some (18, false)) (.load none (.s 19 7)),
 .op (some 21) (some (18, false)) (.lenV (.t 20)),
 .op (some 22) (some (18, false)) (.bin .eql (.t 21) (.c (.int .i64 0))),
 .op (some 23) none (.pick (.t 18) (.c (.bool true)) (.t 22))] [16, 19])
 (.cond (.t 23)
 (.seq (.items [.op (some 24) none (.mov (.t 5)),
 .op (some 25) none (.mov (.t 6)),
 .op (some 26) none (.load (some 3) (.l 7)),
 .op (some 27) none (.build [(.int .i64 0), (.int .i64 0), (.bool false), (.int .i64 0), .nils] [(0, 1, (.t 25)), (1, 1, (.c (.int .i64 0))), (2, 3, (.t 26))]),
 .op (some 28) none (.bslice false (.agg [(.int .i64 0), (.int .i64 0), (.bool false), (.int .i64 0), .nils]) 1 [(0, (.t 27))]),
 .op (some 29) none (.append 5 true false false (.t 24) (.t 28)),
 .op (some 4) none (.mov (.t 29))] [])
 (.ret))
 (.skip)))
 (.seq (.items [.op (some 30) none (.load (some 3) (.l 7)),
 .op (some 31) none (.mov (.t 1)),
 .call (some 32) none (.fn 120) [(.t 30), (.t 31)],
 .op (some 9) none (.mov (.t 32))] [])
 (.seq (.items [.op (some 33) none (.mov (.t 5)),
 .op (some 34) none (.mov (.t 6)),
 .op (some 35) none (.mov (.t 9)),
 .op (some 36) none (.load (some 3) (.l 7)),
 .op (some 37) none (.build [(.int .i64 0), (.int .i64 0), (.bool false), (.int .i64 0), .nils] [(0, 1, (.t 34)), (1, 1, (.t 35)), (2, 3, (.t 36))]),
 .op (some 38) none (.bslice false (.agg [(.int .i64 0), (.int .i64 0), (.bool false), (.int .i64 0), .nils]) 1 [(0, (.t 37))]),
 .op (some 39) none (.append 5 true false false (.t 33) (.t 38)),
 .op (some 5) none (.mov (.t 39))] [])
 (.items [.op (some 40) none (.faddr 2 (.l 7)),
 .op (some 41) none (.load none (.s 40 7)),
 .op (some 42) none (.mov (.t 9)),
 .op (some 43) none (.iaddr 2 (.t 41) (.t 42)),
 .op (some 44) none (.load (some 2) (.t 43)),
 .call (some 45) none (.fn 106) [(.t 44)],
 .op (some 6) none (.mov (.t 45))] [40])))))))))),
 [.tmp 4], 2, false, false⟩
def a84 : Ann := { prom := [7], base := [(16, 7), (19, 7), (40, 7)], hps := [], frz := [], keepArgs := false, keepRes := false, ntmps := 46 }

/-- lapstone/page.Find -/
def i85 : IRFn :=
 ⟨.seq (.items [.op (some 2) none (.hbox (.t 0)),
 .op (some 3) none (.hbox (.t 1)),
 .op (some 4) none (.mov (.c (.int .i64 0))),
 .op (some 5) none (.mov (.c (.bool false)))] [])
 (.seq (.items [.op (some 7) none (.faddr 2 (.t 2)),
 .op (some 8) none (.load none (.t 7)),
 .op (some 9) none (.lenV (.t 8)),
 .op (some 10) none (.mkfn (.func 122) [] [(.t 2), (.t 3)]),
 .call (some 11) none (.fn 121) [(.t 9), (.t 10)],
 .op (some 6) none (.mov (.t 11))] [])
 (.seq (.items [.op (some 12) none (.mov (.t 6)),
 .op (some 13) none (.mov (.t 6)),
 .op (some 14) none (.faddr 2 (.t 2)),
 .op (some 15) none (.load none (.t 14)),
 .op (some 16) none (.lenV (.t 15)),
 .op (some 17) none (.bin .lss (.t 13) (.t 16)),
 .op (some 18) none (.mov (.t 17)),
 .op (some 19) (some (18, true)) (.faddr 2 (.t 2)),
 .op (some 20) (some (18, true)) (.load none (.t 19)),
 .op (some 21) (some (18, true)) (.mov (.t 6)),
 .op (some 22) (some (18, true)) (.iaddr 2 (.t 20) (.t 21)),
 .op (some 23) (some (18, true)) (.faddr 0 (.t 22)),
 .op (some 24) (some (18, true)) (.load none (.t 23)),
 .op (some 25) (some (18, true)) (.load none (.t 3)),
 .op (some 26) (some (18, true)) (.bin .eql (.t 24) (.t 25)),
 .op (some 27) none (.pick (.t 18) (.t 26) (.c (.bool false))),
 .op (some 4) none (.mov (.t 12)),
 .op (some 5) none (.mov (.t 27))] [])
 (.ret))),
 [.tmp 4, .tmp 5], 2, false, false⟩
def a85 : Ann := { prom := [], base := [], hps := [], frz := [], keepArgs := false, keepRes := false, ntmps := 28 }

/-- (*lapstone/code.Reader).take -/
def i86 : IRFn :=
 ⟨.seq (.items [.op (some 2) none (.mov (.c (.int .u64 0))),
 .op (some 3) none (.mov (.c .nils)),
 .op (some 4) none (.mov (.c (.bool false)))] [])
 (.seq (.seq (.items [.op (some 8) none (.mov (.t 0)),
 .op (some 9) none (.nilchk (.t 8)),
 .op (some 10) none (.faddr 1 (.t 9)),
 .op (some 11) none (.load none (.t 10)),
 .op (some 12) none (.bin .neq (.t 11) (.c (.int .i64 0)))] [])
 (.cond (.t 12)
 (.seq (.items [.op (some 2) none (.mov (.c (.int .u64 0))),
 .op (some 3) none (.mov (.c .nils)),
 .op (some 4) none (.mov (.c (.bool false)))] [])
 (.ret))
 (.skip)))
 (.seq (.items [.op (some 14) none (.mov (.t 0)),
 .op (some 15) none (.nilchk (.t 14)),
 .op (some 16) none (.faddr 0 (.t 15)),
 .op (some 17) none (.load none (.t 16)),
 .call (some 18) none (.fn 123) [(.t 17)],
 .op (some 13) none (.mov (.t 18)),
 .op (some 19) none (.extract (.t 13) 0),
 .op (some 20) none (.extract (.t 13) 1),
 .op (some 21) none (.extract (.t 13) 2),
 .op (some 5) none (.mov (.t 19)),
 .op (some 6) none (.mov (.t 20)),
 .op (some 7) none (.mov (.t 21))] [])
 (.seq (.seq (.items [.op (some 22) none (.mov (.t 7))] [])
 (.block 0
 (.seq (.items [.op (some 24) none (.bin .eql (.t 22) (.c (.int .i64 0))),
 .op (some 23) none (.mov (.t 24))] [])
 (.cond (.t 23)
 (.seq (.items [.op (some 25) none (.mov (.t 5)),
 .op (some 26) none (.mov (.t 6)),
 .op (some 2) none (.mov (.t 25)),
 .op (some 3) none (.mov (.t 26)),
 .op (some 4) none (.mov (.c (.bool true)))] [])
 (.ret))
 (.seq (.items [.op (some 28) none (.bin .eql (.t 22) (.c (.int .i64 10))),
 .op (some 27) none (.mov (.t 28))] [])
 (.cond (.t 27)
 (.items [.op (some 7) none (.mov (.c (.int .i64 30)))] [])
 (.skip)))))))
 (.seq (.items [.op (some 29) none (.mov (.t 0)),
 .op (some 30) none (.mov (.t 7)),
 .call (some 31) none (.fn 114) [(.t 29), (.t 30)],
 .op (some 2) none (.mov (.c (.int .u64 0))),
 .op (some 3) none (.mov (.c .nils)),
 .op (some 4) none (.mov (.t 31))] [])
 (.ret))))),
 [.tmp 2, .tmp 3, .tmp 4], 1, false, false⟩
def a86 : Ann := { prom := [], base := [], hps := [], frz := [], keepArgs := false, keepRes := false, ntmps := 32 }

/-- lapstone/keys.Get -/
def i87 : IRFn :=
 ⟨.seq (.items [.op (some 2) none (.mov (.c (.str []))),
 .op (some 3) none (.mov (.c (.int .u64 0))),
 .op (some 4) none (.mov (.c (.int .i64 0)))] [])
 (.seq (.items [.op (some 11) none (.mov (.t 0)),
 .op (some 12) none (.lenV (.t 11)),
 .op (some 13) none (.bin .sub (.t 12) (.c (.int .i64 10))),
 .op (some 5) none (.mov (.t 13))] [])
 (.seq (.seq (.items [.op (some 14) none (.mov (.t 5)),
 .op (some 15) none (.bin .lss (.t 14) (.c (.int .i64 0))),
 .op (some 16) none (.mov (.t 15)),
 .op (some 17) (some (16, false)) (.mov (.t 0)),
 .op (some 18) (some (16, false)) (.mov (.t 5)),
 .op (some 19) (some (16, false)) (.mov (.t 5)),
 .op (some 20) (some (16, false)) (.bin .add (.t 19) (.c (.int .i64 2))),
 .op (some 21) (some (16, false)) (.sliceV 1 (.t 17) (some (.t 18)) (some (.t 20)) none),
 .op (some 22) (some (16, false)) (.cvS (.t 21)),
 .op (some 23) (some (16, false)) (.bin .neq (.t 22) (.c (.str [0, 1]))),
 .op (some 24) none (.pick (.t 16) (.c (.bool true)) (.t 23))] [])
 (.cond (.t 24)
 (.seq (.items [.op (some 2) none (.mov (.c (.str []))),
 .op (some 3) none (.mov (.c (.int .u64 0))),
 .op (some 4) none (.mov (.c (.int .i64 40)))] [])
 (.ret))
 (.skip)))
 (.seq (.items [.op (some 26) none (.mov (.t 0)),
 .op (some 27) none (.mov (.t 5)),
 .op (some 28) none (.bin .add (.t 27) (.c (.int .i64 2))),
 .op (some 29) none (.sliceV 1 (.t 26) (some (.t 28)) none none),
 .call (some 30) none (.fn 124) [(.t 29), (.c (.int .i64 8))],
 .op (some 25) none (.mov (.t 30)),
 .op (some 31) none (.extract (.t 25) 0),
 .op (some 32) none (.extract (.t 25) 1),
 .op (some 33) none (.extract (.t 25) 2),
 .op (some 6) none (.mov (.t 31)),
 .op (some 7) none (.mov (.t 32)),
 .op (some 8) none (.mov (.t 33))] [])
 (.seq (.items [.op (some 9) none (.mov (.c .nils))] [])
 (.seq (.seq (.items [.op (some 34) none (.mov (.t 0)),
 .op (some 35) none (.mov (.t 5)),
 .op (some 36) none (.mov (.t 5)),
 .op (some 37) none (.sliceV 1 (.t 34) none (some (.t 35)) (some (.t 36))),
 .op (some 10) none (.mov (.t 37))] [])
 (.block 0
 (.loop
 (.seq (.seq (.items [.op (some 38) none (.mov (.t 10)),
 .op (some 39) none (.lenV (.t 38)),
 .op (some 40) none (.bin .gtr (.t 39) (.c (.int .i64 0)))] [])
 (.cond (.t 40)
 (.skip)
 (.exit 0)))
 (.block 1
 (.seq (.items [.op (some 41) none (.mov (.t 9)),
 .op (some 42) none (.mov (.t 10)),
 .op (some 43) none (.iaddr 1 (.t 42) (.c (.int .i64 0))),
 .op (some 44) none (.load none (.t 43)),
 .op (some 45) none (.bslice false (.int .u8 0) 1 [(0, (.t 44))]),
 .op (some 46) none (.append 1 false false false (.t 41) (.t 45)),
 .op (some 9) none (.mov (.t 46))] [])
 (.block 2
 (.seq (.items [.op (some 48) none (.mov (.t 10)),
 .op (some 49) none (.iaddr 1 (.t 48) (.c (.int .i64 0))),
 .op (some 50) none (.load none (.t 49)),
 .op (some 51) none (.bin .neq (.t 50) (.c (.int .u8 0))),
 .op (some 47) none (.mov (.t 51))] [])
 (.cond (.t 47)
 (.items [.op (some 52) none (.mov (.t 10)),
 .op (some 53) none (.sliceV 1 (.t 52) (some (.c (.int .i64 1))) none none),
 .op (some 10) none (.mov (.t 53))] [])
 (.seq (.items [.op (some 55) none (.mov (.t 10)),
 .op (some 56) none (.lenV (.t 55)),
 .op (some 57) none (.bin .gtr (.t 56) (.c (.int .i64 1))),
 .op (some 58) none (.mov (.t 57)),
 .op (some 59) (some (58, true)) (.mov (.t 10)),
 .op (some 60) (some (58, true)) (.iaddr 1 (.t 59) (.c (.int .i64 1))),
 .op (some 61) (some (58, true)) (.load none (.t 60)),
 .op (some 62) (some (58, true)) (.bin .eql (.t 61) (.c (.int .u8 255))),
 .op (some 63) none (.pick (.t 58) (.t 62) (.c (.bool false))),
 .op (some 54) none (.mov (.t 63))] [])
 (.cond (.t 54)
 (.items [.op (some 64) none (.mov (.t 10)),
 .op (some 65) none (.sliceV 1 (.t 64) (some (.c (.int .i64 2))) none none),
 .op (some 10) none (.mov (.t 65))] [])
 (.seq (.items [.op (some 2) none (.mov (.c (.str []))),
 .op (some 3) none (.mov (.c (.int .u64 0))),
 .op (some 4) none (.mov (.c (.int .i64 40)))] [])
 (.ret)))))))))))))
 (.seq (.seq (.items [.op (some 66) none (.mov (.t 9)),
 .op (some 67) none (.lenV (.t 66)),
 .op (some 68) none (.bin .gtr (.t 67) (.c (.int .i64 64)))] [])
 (.cond (.t 68)
 (.seq (.items [.op (some 2) none (.mov (.c (.str []))),
 .op (some 3) none (.mov (.c (.int .u64 0))),
 .op (some 4) none (.mov (.c (.int .i64 40)))] [])
 (.ret))
 (.skip)))
 (.seq (.items [.op (some 69) none (.mov (.t 9)),
 .op (some 70) none (.cvS (.t 69)),
 .op (some 71) none (.mov (.t 6)),
 .op (some 72) none (.un .xor (.t 71)),
 .op (some 2) none (.mov (.t 70)),
 .op (some 3) none (.mov (.t 72)),
 .op (some 4) none (.mov (.c (.int .i64 0)))] [])
 (.ret)))))))),
 [.tmp 2, .tmp 3, .tmp 4], 1, false, false⟩
def a87 : Ann := { prom := [], base := [], hps := [], frz := [], keepArgs := false, keepRes := false, ntmps := 73 }

/-- lapstone/num.PutVar -/
def i88 : IRFn :=
 ⟨.seq (.items [.op (some 4) none (.mov (.c .nils))] [])
 (.seq (.items [.op (some 6) none (.bslice false (.int .u8 0) 0 []),
 .op (some 7) none (.mov (.t 0)),
 .op (some 8) none (.append 1 false false false (.t 6) (.t 7)),
 .op (some 5) none (.mov (.t 8))] [])
 (.seq (.block 0
 (.loop
 (.seq (.seq (.items [.op (some 9) none (.mov (.t 1)),
 .op (some 10) none (.bin .geq (.t 9) (.c (.int .u64 128)))] [])
 (.cond (.t 10)
 (.skip)
 (.exit 0)))
 (.seq (.block 1
 (.items [.op (some 13) none (.mov (.t 5)),
 .op (some 14) none (.mov (.t 1)),
 .op (some 15) none (.cvI .u8 (.t 14)),
 .op (some 16) none (.bin .or (.t 15) (.c (.int .u8 128))),
 .op (some 17) none (.bslice false (.int .u8 0) 1 [(0, (.t 16))]),
 .op (some 18) none (.append 1 false false false (.t 13) (.t 17)),
 .op (some 5) none (.mov (.t 18))] []))
 (.items [.op (some 11) none (.mov (.t 1)),
 .op (some 12) none (.bin .shr (.t 11) (.c (.int .u64 7))),
 .op (some 1) none (.mov (.t 12))] [])))))
 (.seq (.items [.op (some 19) none (.mov (.t 5)),
 .op (some 20) none (.mov (.t 1)),
 .op (some 21) none (.cvI .u8 (.t 20)),
 .op (some 22) none (.bslice false (.int .u8 0) 1 [(0, (.t 21))]),
 .op (some 23) none (.append 1 false false false (.t 19) (.t 22)),
 .op (some 4) none (.mov (.t 23))] [])
 (.ret)))),
 [.tmp 4], 2, false, true⟩
def a88 : Ann := { prom := [], base := [], hps := [], frz := [], keepArgs := false, keepRes := true, ntmps := 24 }

/-- lapstone/keys.Put$1 -/
def i89 : IRFn :=
 ⟨.items [.op (some 3) none (.load none (.t 1)),
 .op (some 4) none (.mov (.t 0)),
 .op (some 5) none (.append 1 false false true (.t 3) (.t 4)),
 .op none none (.store 1 (.t 1) (.t 5))] [],
 [], 2, false, false⟩
def a89 : Ann := { prom := [], base := [], hps := [], frz := [], keepArgs := false, keepRes := false, ntmps := 6 }

/-- lapstone/num.Put -/
def i90 : IRFn :=
 ⟨.seq (.items [.op (some 4) none (.hbox (.t 1)),
 .op (some 6) none (.mov (.c .nils)),
 .op (some 7) none (.mov (.c (.int .i64 0)))] [])
 (.seq (.seq (.items [.op (some 11) none (.mov (.t 2)),
 .op (some 12) none (.bin .lss (.t 11) (.c (.int .i64 1))),
 .op (some 13) none (.mov (.t 12)),
 .op (some 14) (some (13, false)) (.mov (.t 2)),
 .op (some 15) (some (13, false)) (.bin .gtr (.t 14) (.c (.int .i64 8))),
 .op (some 16) none (.pick (.t 13) (.c (.bool true)) (.t 15)),
 .op (some 17) none (.mov (.t 16)),
 .op (some 18) (some (17, false)) (.mov (.t 2)),
 .op (some 19) (some (17, false)) (.bin .lss (.t 18) (.c (.int .i64 8))),
 .op (some 20) (some (17, false)) (.mov (.t 19)),
 .op (some 21) (some (20, true)) (.load none (.t 4)),
 .op (some 22) (some (20, true)) (.mov (.t 2)),
 .op (some 23) (some (20, true)) (.iaddrA 9 1 (.c (.ep [(.int .u64 0), (.int .u64 8), (.int .u64 16), (.int .u64 24), (.int .u64 32), (.int .u64 40), (.int .u64 48), (.int .u64 56), (.int .u64 64)] 0)) (.t 22)),
 .op (some 24) (some (20, true)) (.load none (.t 23)),
 .op (some 25) (some (20, true)) (.bin .shr (.t 21) (.t 24)),
 .op (some 26) (some (20, true)) (.bin .neq (.t 25) (.c (.int .u64 0))),
 .op (some 27) (some (17, false)) (.pick (.t 20) (.t 26) (.c (.bool false))),
 .op (some 28) none (.pick (.t 17) (.c (.bool true)) (.t 27))] [])
 (.cond (.t 28)
 (.seq (.items [.op (some 6) none (.mov (.c .nils)),
 .op (some 7) none (.mov (.c (.int .i64 11)))] [])
 (.ret))
 (.skip)))
 (.seq (.items [.op (some 29) none (.bslice false (.int .u8 0) 0 []),
 .op (some 30) none (.mov (.t 0)),
 .op (some 31) none (.append 1 false false false (.t 29) (.t 30)),
 .op (some 8) none (.halloc [.nils]),
 .op none none (.store 1 (.t 8) (.t 31))] [])
 (.seq (.items [.op (some 32) none (.mkfn (.func 125) [] [(.t 8), (.t 4)]),
 .op (some 9) none (.mov (.t 32))] [])
 (.seq (.seq (.items [.op (some 33) none (.mov (.t 2)),
 .op (some 34) none (.mov (.c (.int .i64 0)))] [])
 (.block 0
 (.loop
 (.seq (.items [.op (some 35) none (.bin .lss (.t 34) (.t 33))] [])
 (.seq (.cond (.t 35)
 (.skip)
 (.exit 0))
 (.seq (.block 1
 (.seq (.items [.op (some 36) none (.mov (.t 34)),
 .op (some 10) none (.mov (.t 36))] [])
 (.items [.op (some 37) none (.mov (.t 9)),
 .op (some 38) none (.mov (.t 2)),
 .op (some 39) none (.bin .sub (.t 38) (.c (.int .i64 1))),
 .op (some 40) none (.mov (.t 10)),
 .op (some 41) none (.bin .sub (.t 39) (.t 40)),
 .op (some 42) none (.iaddrA 9 1 (.c (.ep [(.int .u64 0), (.int .u64 8), (.int .u64 16), (.int .u64 24), (.int .u64 32), (.int .u64 40), (.int .u64 48), (.int .u64 56), (.int .u64 64)] 0)) (.t 41)),
 .op (some 43) none (.load none (.t 42)),
 .call (some 44) none (.dyn (.t 37)) [(.t 43)]] [])))
 (.items [.op (some 45) none (.bin .add (.t 34) (.c (.int .i64 1))),
 .op (some 34) none (.mov (.t 45))] [])))))))
 (.seq (.items [.op (some 46) none (.load none (.t 8)),
 .op (some 6) none (.mov (.t 46)),
 .op (some 7) none (.mov (.c (.int .i64 0)))] [])
 (.ret)))))),
 [.tmp 6, .tmp 7], 3, false, true⟩
def a90 : Ann := { prom := [], base := [], hps := [], frz := [], keepArgs := false, keepRes := true, ntmps := 47 }

/-- lapstone/record.Put -/
def i91 : IRFn :=
 ⟨.seq (.seq (.items [] [1])
 (.items [.op (some 1) none (.lbox (.t 0)),
 .op (some 2) none (.mov (.c .nils)),
 .op (some 3) none (.mov (.c (.int .i64 0)))] []))
 (.seq (.seq (.items [.op (some 7) none (.faddr 1 (.l 1)),
 .op (some 8) none (.load none (.s 7 1)),
 .op (some 9) none (.lenS (.t 8)),
 .op (some 10) none (.bin .gtr (.t 9) (.c (.int .i64 32768)))] [7])
 (.cond (.t 10)
 (.seq (.items [.op (some 2) none (.mov (.c .nils)),
 .op (some 3) none (.mov (.c (.int .i64 70)))] [])
 (.ret))
 (.skip)))
 (.seq (.items [.op (some 11) none (.load (some 2) (.l 1)),
 .call (some 12) none (.fn 127) [(.t 11)],
 .call (some 13) none (.fn 126) [(.t 12)],
 .op (some 4) none (.mov (.t 13))] [])
 (.seq (.items [.op (some 15) none (.mov (.t 4)),
 .op (some 16) none (.lenV (.t 15)),
 .op (some 17) none (.cvI .u64 (.t 16)),
 .call (some 18) none (.fn 90) [(.c .nils), (.t 17), (.c (.int .i64 4))],
 .op (some 14) none (.mov (.t 18)),
 .op (some 19) none (.extract (.t 14) 0),
 .op (some 20) none (.extract (.t 14) 1),
 .op (some 5) none (.mov (.t 19)),
 .op (some 6) none (.mov (.t 20))] [])
 (.seq (.items [.op (some 21) none (.mov (.t 5)),
 .op (some 22) none (.mov (.t 4)),
 .op (some 23) none (.append 1 false false false (.t 21) (.t 22)),
 .op (some 2) none (.mov (.t 23)),
 .op (some 3) none (.mov (.c (.int .i64 0)))] [])
 (.ret))))),
 [.tmp 2, .tmp 3], 1, false, false⟩
def a91 : Ann := { prom := [1], base := [(7, 1)], hps := [], frz := [], keepArgs := false, keepRes := false, ntmps := 24 }

/-- (*lapstone/wal.Log).room -/
def i92 : IRFn :=
 ⟨.seq (.items [.op (some 2) none (.mov (.c (.int .i64 0)))] [])
 (.seq (.items [.op (some 3) none (.mov (.t 0)),
 .op (some 4) none (.nilchk (.t 3)),
 .op (some 5) none (.faddr 3 (.t 4)),
 .op (some 6) none (.load none (.t 5)),
 .op (some 7) none (.bin .mul (.t 6) (.c (.int .i64 512))),
 .op (some 2) none (.mov (.t 7))] [])
 (.ret)),
 [.tmp 2], 1, false, false⟩
def a92 : Ann := { prom := [], base := [], hps := [], frz := [], keepArgs := false, keepRes := false, ntmps := 8 }

/-- slices.Clone[[]lapstone/wal.segment,lapstone/wal.segment] -/
def i93 : IRFn :=
 ⟨.seq (.items [.op (some 2) none (.mov (.c .nils))] [])
 (.seq (.seq (.items [.op (some 3) none (.mov (.t 0)),
 .op (some 4) none (.eqN false (.t 3) .nils)] [])
 (.cond (.t 4)
 (.seq (.items [.op (some 2) none (.mov (.c .nils))] [])
 (.ret))
 (.skip)))
 (.seq (.items [.op (some 5) none (.bslice false (.agg [(.int .i64 0), (.int .u64 0), (.int .u64 0)]) 0 []),
 .op (some 6) none (.mov (.t 0)),
 .op (some 7) none (.append 3 true true false (.t 5) (.t 6)),
 .op (some 2) none (.mov (.t 7))] [])
 (.ret))),
 [.tmp 2], 1, true, true⟩
def a93 : Ann := { prom := [], base := [], hps := [(3, 2)], frz := [], keepArgs := true, keepRes := true, ntmps := 8 }

/-- slices.Clone[[]byte,byte] -/
def i94 : IRFn :=
 ⟨.seq (.items [.op (some 2) none (.mov (.c .nils))] [])
 (.seq (.seq (.items [.op (some 3) none (.mov (.t 0)),
 .op (some 4) none (.eqN false (.t 3) .nils)] [])
 (.cond (.t 4)
 (.seq (.items [.op (some 2) none (.mov (.c .nils))] [])
 (.ret))
 (.skip)))
 (.seq (.items [.op (some 5) none (.bslice false (.int .u8 0) 0 []),
 .op (some 6) none (.mov (.t 0)),
 .op (some 7) none (.append 1 false false false (.t 5) (.t 6)),
 .op (some 2) none (.mov (.t 7))] [])
 (.ret))),
 [.tmp 2], 1, true, true⟩
def a94 : Ann := { prom := [], base := [], hps := [], frz := [], keepArgs := true, keepRes := true, ntmps := 8 }

/-- (*lapstone/wal.Log).put -/
def i95 : IRFn :=
 ⟨.seq (.items [.op (some 8) none (.mov (.c (.int .i64 0)))] [])
 (.seq (.seq (.items [.op (some 12) none (.mov (.t 2)),
 .op (some 13) none (.bin .quo (.t 12) (.c (.int .i64 512))),
 .op (some 9) none (.mov (.t 13))] [])
 (.block 0
 (.loop
 (.seq (.seq (.items [.op (some 14) none (.mov (.t 9)),
 .op (some 15) none (.bin .mul (.t 14) (.c (.int .i64 512))),
 .op (some 16) none (.mov (.t 3)),
 .op (some 17) none (.lenV (.t 16)),
 .op (some 18) none (.bin .lss (.t 15) (.t 17))] [])
 (.cond (.t 18)
 (.skip)
 (.exit 0)))
 (.seq (.block 1
 (.seq (.items [.op (some 21) none (.mov (.t 9)),
 .op (some 22) none (.bin .add (.t 21) (.c (.int .i64 1))),
 .op (some 23) none (.bin .mul (.t 22) (.c (.int .i64 512))),
 .op (some 24) none (.mov (.t 3)),
 .op (some 25) none (.lenV (.t 24)),
 .op (some 26) none (.minmax false [(.t 23), (.t 25)]),
 .op (some 10) none (.mov (.t 26))] [])
 (.seq (.items [.op (some 27) none (.mov (.t 0)),
 .op (some 28) none (.nilchk (.t 27)),
 .op (some 29) none (.faddr 0 (.t 28)),
 .op (some 30) none (.load none (.t 29)),
 .op (some 31) none (.mov (.t 0)),
 .op (some 32) none (.nilchk (.t 31)),
 .op (some 33) none (.faddr 1 (.t 32)),
 .op (some 34) none (.load none (.t 33)),
 .op (some 35) none (.mov (.t 1)),
 .op (some 36) none (.mov (.t 0)),
 .op (some 37) none (.nilchk (.t 36)),
 .op (some 38) none (.faddr 3 (.t 37)),
 .op (some 39) none (.load none (.t 38)),
 .op (some 40) none (.bin .mul (.t 35) (.t 39)),
 .op (some 41) none (.bin .add (.t 34) (.t 40)),
 .op (some 42) none (.mov (.t 9)),
 .op (some 43) none (.bin .add (.t 41) (.t 42)),
 .op (some 44) none (.mov (.t 3)),
 .op (some 45) none (.mov (.t 9)),
 .op (some 46) none (.bin .mul (.t 45) (.c (.int .i64 512))),
 .op (some 47) none (.mov (.t 10)),
 .op (some 48) none (.sliceV 1 (.t 44) (some (.t 46)) (some (.t 47)) none),
 .call (some 49) none (.fn 128) [(.t 30), (.t 43), (.t 48)],
 .op (some 11) none (.mov (.t 49))] [])
 (.seq (.items [.op (some 50) none (.mov (.t 11)),
 .op (some 51) none (.bin .neq (.t 50) (.c (.int .i64 0)))] [])
 (.cond (.t 51)
 (.seq (.items [.op (some 52) none (.mov (.t 11)),
 .op (some 8) none (.mov (.t 52))] [])
 (.ret))
 (.skip))))))
 (.items [.op (some 19) none (.mov (.t 9)),
 .op (some 20) none (.bin .add (.t 19) (.c (.int .i64 1))),
 .op (some 9) none (.mov (.t 20))] []))))))
 (.seq (.items [.op (some 8) none (.mov (.c (.int .i64 0)))] [])
 (.ret))),
 [.tmp 8], 4, false, false⟩
def a95 : Ann := { prom := [], base := [], hps := [], frz := [], keepArgs := false, keepRes := false, ntmps := 53 }

/-- (*lapstone/code.Writer).Text -/
def i96 : IRFn :=
 ⟨.seq (.items [.op (some 6) none (.mov (.t 1)),
 .op (some 7) none (.lenV (.t 6)),
 .op (some 8) none (.mov (.c (.int .i64 0)))] [])
 (.block 0
 (.loop
 (.seq (.items [.op (some 9) none (.bin .lss (.t 8) (.t 7))] [])
 (.seq (.cond (.t 9)
 (.skip)
 (.exit 0))
 (.seq (.block 1
 (.seq (.items [.op (some 10) none (.iaddr 1 (.t 6) (.t 8)),
 .op (some 11) none (.load none (.t 10)),
 .op (some 5) none (.mov (.t 11))] [])
 (.seq (.seq (.items [.op (some 12) none (.mov (.t 5)),
 .op (some 13) none (.lenS (.t 12)),
 .op (some 14) none (.bin .gtr (.t 13) (.c (.int .i64 65536))),
 .op (some 15) none (.mov (.t 14)),
 .op (some 16) (some (15, true)) (.mov (.t 0)),
 .op (some 17) (some (15, true)) (.nilchk (.t 16)),
 .op (some 18) (some (15, true)) (.faddr 1 (.t 17)),
 .op (some 19) (some (15, true)) (.load none (.t 18)),
 .op (some 20) (some (15, true)) (.bin .eql (.t 19) (.c (.int .i64 0))),
 .op (some 21) none (.pick (.t 15) (.t 20) (.c (.bool false)))] [])
 (.cond (.t 21)
 (.items [.op (some 22) none (.mov (.t 0)),
 .op (some 23) none (.nilchk (.t 22)),
 .op (some 24) none (.faddr 1 (.t 23)),
 .op none none (.store 1 (.t 24) (.c (.int .i64 32)))] [])
 (.skip)))
 (.seq (.items [.op (some 25) none (.mov (.t 0)),
 .op (some 26) none (.mov (.t 5)),
 .op (some 27) none (.lenS (.t 26)),
 .op (some 28) none (.cvI .u64 (.t 27)),
 .op (some 29) none (.bslice false (.int .u64 0) 1 [(0, (.t 28))]),
 .call (some 30) none (.fn 56) [(.t 25), (.t 29)]] [])
 (.seq (.items [.op (some 31) none (.mov (.t 0)),
 .op (some 32) none (.nilchk (.t 31)),
 .op (some 33) none (.faddr 1 (.t 32)),
 .op (some 34) none (.load none (.t 33)),
 .op (some 35) none (.bin .eql (.t 34) (.c (.int .i64 0)))] [])
 (.cond (.t 35)
 (.items [.op (some 36) none (.mov (.t 0)),
 .op (some 37) none (.mov (.t 0)),
 .op (some 38) none (.nilchk (.t 37)),
 .op (some 39) none (.faddr 0 (.t 38)),
 .op (some 40) none (.load none (.t 39)),
 .op (some 41) none (.mov (.t 5)),
 .op (some 42) none (.append 1 false false true (.t 40) (.t 41)),
 .op (some 43) none (.nilchk (.t 36)),
 .op (some 44) none (.faddr 0 (.t 43)),
 .op none none (.store 1 (.t 44) (.t 42))] [])
 (.skip)))))))
 (.items [.op (some 45) none (.bin .add (.t 8) (.c (.int .i64 1))),
 .op (some 8) none (.mov (.t 45))] [])))))),
 [], 2, false, false⟩
def a96 : Ann := { prom := [], base := [], hps := [], frz := [], keepArgs := false, keepRes := false, ntmps := 46 }

/-- (*lapstone/code.Writer).Flag -/
def i97 : IRFn :=
 ⟨.seq (.items [.op (some 4) none (.mov (.c (.int .u64 0)))] [])
 (.seq (.seq (.items [.op (some 5) none (.mov (.t 1))] [])
 (.cond (.t 5)
 (.items [.op (some 4) none (.mov (.c (.int .u64 1)))] [])
 (.skip)))
 (.items [.op (some 6) none (.mov (.t 0)),
 .op (some 7) none (.mov (.t 4)),
 .op (some 8) none (.bslice false (.int .u64 0) 1 [(0, (.t 7))]),
 .call (some 9) none (.fn 56) [(.t 6), (.t 8)]] [])),
 [], 2, false, false⟩
def a97 : Ann := { prom := [], base := [], hps := [], frz := [], keepArgs := false, keepRes := false, ntmps := 10 }

/-- lapstone/meta.tells -/
def i98 : IRFn :=
 ⟨.seq (.seq (.items [] [4])
 (.items [.op (some 4) none (.lalloc (.agg [(.int .u64 0), (.str [])])),
 .op (some 5) none (.mov (.c (.bool false)))] []))
 (.seq (.items [.op (some 12) none (.mov (.t 0)),
 .op (some 13) none (.mov (.t 1)),
 .call (some 14) none (.fn 129) [(.t 12), (.t 13)],
 .op (some 11) none (.mov (.t 14)),
 .op (some 15) none (.extract (.t 11) 0),
 .op (some 16) none (.extract (.t 11) 1),
 .op (some 6) none (.mov (.t 15)),
 .op (some 7) none (.mov (.t 16))] [])
 (.seq (.seq (.items [] [8])
 (.items [.op (some 18) none (.mov (.t 6)),
 .call (some 19) none (.fn 108) [(.t 18)],
 .op (some 17) none (.mov (.t 19)),
 .op (some 20) none (.extract (.t 17) 0),
 .op (some 21) none (.extract (.t 17) 1),
 .op (some 22) none (.extract (.t 17) 2),
 .op (some 8) none (.lalloc (.agg [(.int .u64 0), (.str [])])),
 .op none none (.store 2 (.l 8) (.t 20)),
 .op (some 9) none (.mov (.t 21)),
 .op (some 10) none (.mov (.t 22))] []))
 (.seq (.items [.op (some 23) none (.load (some 2) (.l 8)),
 .op (some 24) none (.mov (.t 7)),
 .op (some 25) none (.bin .eql (.t 24) (.c (.int .i64 0))),
 .op (some 26) none (.mov (.t 25)),
 .op (some 27) (some (26, true)) (.mov (.t 10)),
 .op (some 28) none (.pick (.t 26) (.t 27) (.c (.bool false))),
 .op (some 29) none (.mov (.t 28)),
 .op (some 30) (some (29, true)) (.mov (.t 9)),
 .op (some 31) (some (29, true)) (.mov (.t 6)),
 .op (some 32) (some (29, true)) (.lenV (.t 31)),
 .op (some 33) (some (29, true)) (.bin .eql (.t 30) (.t 32)),
 .op (some 34) none (.pick (.t 29) (.t 33) (.c (.bool false))),
 .op (some 35) none (.mov (.t 34)),
 .op (some 36) (some (35, true)) (.faddr 0 (.l 8)),
 .op (some 37) (some (35, true)) (.load none (.s 36 8)),
 .op (some 38) (some (35, true)) (.bin .gtr (.t 37) (.c (.int .u64 0))),
 .op (some 39) none (.pick (.t 35) (.t 38) (.c (.bool false))),
 .op none none (.store 2 (.l 4) (.t 23)),
 .chk 36 (some (35, true)) (.faddr 0 (.l 8)),
 .chk 37 (some (35, true)) (.load none (.s 36 8)),
 .op (some 5) none (.mov (.t 39))] [36])
 (.ret)))),
 [.loc 4 (some 2), .tmp 5], 2, false, false⟩
def a98 : Ann := { prom := [4, 8], base := [(36, 8)], hps := [], frz := [], keepArgs := false, keepRes := false, ntmps := 40 }

/-- (*lapstone/pager.Pager).has -/
def i101 : IRFn :=
 ⟨.seq (.items [.op (some 4) none (.mov (.c (.bool false)))] [])
 (.seq (.items [.op (some 12) none (.mov (.t 0)),
 .op (some 13) none (.nilchk (.t 12)),
 .op (some 14) none (.faddr 6 (.t 13)),
 .op (some 15) none (.load none (.t 14)),
 .op (some 16) none (.mov (.t 1)),
 .op (some 17) none (.lookup 0 .nils true (.t 15) (.t 16)),
 .op (some 11) none (.mov (.t 17)),
 .op (some 18) none (.extract (.t 11) 0),
 .op (some 19) none (.extract (.t 11) 1),
 .op (some 5) none (.mov (.t 18)),
 .op (some 6) none (.mov (.t 19))] [])
 (.seq (.items [.op (some 21) none (.mov (.t 0)),
 .op (some 22) none (.nilchk (.t 21)),
 .op (some 23) none (.faddr 7 (.t 22)),
 .op (some 24) none (.load none (.t 23)),
 .op (some 25) none (.mov (.t 1)),
 .op (some 26) none (.lookup 0 (.int .i64 0) true (.t 24) (.t 25)),
 .op (some 20) none (.mov (.t 26)),
 .op (some 27) none (.extract (.t 20) 0),
 .op (some 28) none (.extract (.t 20) 1),
 .op (some 7) none (.mov (.t 27)),
 .op (some 8) none (.mov (.t 28))] [])
 (.seq (.seq (.items [] [9])
 (.items [.op (some 30) none (.mov (.t 0)),
 .op (some 31) none (.nilchk (.t 30)),
 .op (some 32) none (.faddr 5 (.t 31)),
 .op (some 33) none (.load none (.t 32)),
 .op (some 34) none (.mov (.t 1)),
 .op (some 35) none (.lookup 0 (.agg [(.int .i64 0), (.int .i64 0)]) true (.t 33) (.t 34)),
 .op (some 29) none (.mov (.t 35)),
 .op (some 36) none (.extract (.t 29) 0),
 .op (some 37) none (.extract (.t 29) 1),
 .op (some 9) none (.lalloc (.agg [(.int .i64 0), (.int .i64 0)])),
 .op none none (.store 2 (.l 9) (.t 36)),
 .op (some 10) none (.mov (.t 37))] []))
 (.seq (.items [.op (some 38) none (.mov (.t 6)),
 .op (some 39) none (.mov (.t 38)),
 .op (some 40) (some (39, false)) (.mov (.t 10)),
 .op (some 41) (some (39, false)) (.mov (.t 40)),
 .op (some 42) (some (41, true)) (.mov (.t 8)),
 .op (some 43) (some (41, true)) (.un .not (.t 42)),
 .op (some 44) (some (39, false)) (.pick (.t 41) (.t 43) (.c (.bool false))),
 .op (some 45) none (.pick (.t 39) (.c (.bool true)) (.t 44)),
 .op (some 4) none (.mov (.t 45))] [])
 (.ret))))),
 [.tmp 4], 2, false, false⟩
def a101 : Ann := { prom := [9], base := [], hps := [], frz := [], keepArgs := false, keepRes := false, ntmps := 46 }

/-- lapstone/page.Bytes -/
def i102 : IRFn :=
 ⟨.seq (.seq (.items [] [1])
 (.items [.op (some 1) none (.lbox (.t 0)),
 .op (some 2) none (.mov (.c .nils)),
 .op (some 3) none (.mov (.c (.int .i64 0)))] []))
 (.seq (.seq (.items [.op (some 10) none (.load (some 3) (.l 1)),
 .call (some 11) none (.fn 132) [(.t 10)],
 .op (some 4) none (.mov (.t 11))] [])
 (.seq (.items [.op (some 12) none (.mov (.t 4)),
 .op (some 13) none (.bin .neq (.t 12) (.c (.int .i64 0)))] [])
 (.cond (.t 13)
 (.seq (.items [.op (some 14) none (.mov (.t 4)),
 .op (some 2) none (.mov (.c .nils)),
 .op (some 3) none (.mov (.t 14))] [])
 (.ret))
 (.skip))))
 (.seq (.items [.call (some 15) none (.fn 55) [],
 .op (some 5) none (.mov (.t 15))] [])
 (.seq (.items [.op (some 16) none (.mov (.t 5)),
 .op (some 17) none (.faddr 0 (.l 1)),
 .op (some 18) none (.load none (.s 17 1)),
 .call (some 19) none (.fn 97) [(.t 16), (.t 18)]] [17])
 (.seq (.items [.op (some 20) none (.mov (.t 5)),
 .op (some 21) none (.faddr 1 (.l 1)),
 .op (some 22) none (.load none (.s 21 1)),
 .op (some 23) none (.cvI .u64 (.t 22)),
 .op (some 24) none (.faddr 2 (.l 1)),
 .op (some 25) none (.load none (.s 24 1)),
 .op (some 26) none (.lenV (.t 25)),
 .op (some 27) none (.cvI .u64 (.t 26)),
 .op (some 28) none (.bslice false (.int .u64 0) 2 [(0, (.t 23)), (1, (.t 27))]),
 .call (some 29) none (.fn 56) [(.t 20), (.t 28)]] [21, 24])
 (.seq (.seq (.items [.op (some 30) none (.faddr 2 (.l 1)),
 .op (some 31) none (.load none (.s 30 1)),
 .op (some 32) none (.lenV (.t 31)),
 .op (some 33) none (.mov (.c (.int .i64 0)))] [30])
 (.block 0
 (.loop
 (.seq (.items [.op (some 34) none (.bin .lss (.t 33) (.t 32))] [])
 (.seq (.cond (.t 34)
 (.skip)
 (.exit 0))
 (.seq (.block 1
 (.seq (.seq (.items [] [7])
 (.items [.op (some 35) none (.iaddr 2 (.t 31) (.t 33)),
 .op (some 36) none (.load (some 2) (.t 35)),
 .op (some 7) none (.lalloc (.agg [(.str []), (.str [])])),
 .op none none (.store 2 (.l 7) (.t 36))] []))
 (.items [.op (some 37) none (.mov (.t 5)),
 .op (some 38) none (.faddr 0 (.l 7)),
 .op (some 39) none (.load none (.s 38 7)),
 .op (some 40) none (.faddr 1 (.l 7)),
 .op (some 41) none (.load none (.s 40 7)),
 .op (some 42) none (.bslice false (.str []) 2 [(0, (.t 39)), (1, (.t 41))]),
 .call (some 43) none (.fn 96) [(.t 37), (.t 42)]] [38, 40])))
 (.items [.op (some 44) none (.bin .add (.t 33) (.c (.int .i64 1))),
 .op (some 33) none (.mov (.t 44))] [])))))))
 (.seq (.items [.op (some 46) none (.mov (.t 5)),
 .call (some 47) none (.fn 57) [(.t 46)],
 .op (some 45) none (.mov (.t 47)),
 .op (some 48) none (.extract (.t 45) 0),
 .op (some 49) none (.extract (.t 45) 1),
 .op (some 8) none (.mov (.t 48)),
 .op (some 9) none (.mov (.t 49))] [])
 (.seq (.items [.op (some 50) none (.mov (.t 8)),
 .call (some 51) none (.fn 126) [(.t 50)],
 .op (some 52) none (.mov (.t 9)),
 .op (some 2) none (.mov (.t 51)),
 .op (some 3) none (.mov (.t 52))] [])
 (.ret)))))))),
 [.tmp 2, .tmp 3], 1, false, false⟩
def a102 : Ann := { prom := [1, 7], base := [(17, 1), (21, 1), (24, 1), (30, 1), (38, 7), (40, 7)], hps := [], frz := [], keepArgs := false, keepRes := false, ntmps := 53 }

/-- (*lapstone/pager.Pager).Write -/
def i103 : IRFn :=
 ⟨.seq (.items [.op (some 6) none (.mov (.c (.int .i64 0)))] [])
 (.seq (.block 0
 (.seq (.items [.op (some 8) none (.mov (.t 1)),
 .op (some 9) none (.bin .lss (.t 8) (.c (.int .i64 0))),
 .op (some 10) none (.mov (.t 9)),
 .op (some 11) (some (10, false)) (.mov (.t 1)),
 .op (some 12) (some (10, false)) (.bin .geq (.t 11) (.c (.int .i64 90))),
 .op (some 13) none (.pick (.t 10) (.c (.bool true)) (.t 12)),
 .op (some 7) none (.mov (.t 13))] [])
 (.cond (.t 7)
 (.seq (.items [.op (some 6) none (.mov (.c (.int .i64 131)))] [])
 (.ret))
 (.seq (.items [.op (some 15) none (.mov (.t 2)),
 .op (some 16) none (.lenV (.t 15)),
 .op (some 17) none (.bin .gtr (.t 16) (.c (.int .i64 2048))),
 .op (some 14) none (.mov (.t 17))] [])
 (.cond (.t 14)
 (.seq (.items [.op (some 6) none (.mov (.c (.int .i64 132)))] [])
 (.ret))
 (.skip))))))
 (.seq (.items [.op (some 18) none (.mov (.t 0)),
 .op (some 19) none (.nilchk (.t 18)),
 .op (some 20) none (.faddr 6 (.t 19)),
 .op (some 21) none (.load none (.t 20)),
 .op (some 22) none (.mov (.t 1)),
 .op (some 23) none (.bslice false (.int .u8 0) 0 []),
 .op (some 24) none (.mov (.t 2)),
 .op (some 25) none (.append 1 false false false (.t 23) (.t 24)),
 .chk 21 none (.load none (.t 20)),
 .op none none (.mupd 0 (.t 21) (.t 22) (.t 25))] [])
 (.seq (.items [.op (some 26) none (.mov (.t 0)),
 .op (some 27) none (.nilchk (.t 26)),
 .op (some 28) none (.faddr 7 (.t 27)),
 .op (some 29) none (.load none (.t 28)),
 .op (some 30) none (.mov (.t 1)),
 .op none none (.mdel 0 (.t 29) (.t 30))] [])
 (.seq (.items [.op (some 6) none (.mov (.c (.int .i64 0)))] [])
 (.ret))))),
 [.tmp 6], 3, false, false⟩
def a103 : Ann := { prom := [], base := [], hps := [], frz := [], keepArgs := false, keepRes := false, ntmps := 31 }

/-- (*lapstone/tree.Tree).read -/
def i104 : IRFn :=
 ⟨.seq (.seq (.items [] [4])
 (.items [.op (some 4) none (.lalloc (.agg [(.bool false), (.int .i64 0), .nils])),
 .op (some 5) none (.mov (.c (.bool false)))] []))
 (.seq (.items [.op (some 10) none (.mov (.t 0)),
 .op (some 11) none (.nilchk (.t 10)),
 .op (some 12) none (.faddr 0 (.t 11)),
 .op (some 13) none (.load none (.t 12)),
 .op (some 14) none (.mov (.t 1)),
 .call (some 15) none (.fn 133) [(.t 13), (.t 14)],
 .op (some 9) none (.mov (.t 15)),
 .op (some 16) none (.extract (.t 9) 0),
 .op (some 17) none (.extract (.t 9) 1),
 .op (some 6) none (.mov (.t 16)),
 .op (some 7) none (.mov (.t 17))] [])
 (.seq (.seq (.items [.op (some 18) none (.mov (.t 7)),
 .op (some 19) none (.bin .neq (.t 18) (.c (.int .i64 0)))] [])
 (.cond (.t 19)
 (.seq (.items [.op (some 20) none (.build [(.bool false), (.int .i64 0), .nils] []),
 .op none none (.store 3 (.l 4) (.t 20)),
 .op (some 5) none (.mov (.c (.bool false)))] [])
 (.ret))
 (.skip)))
 (.seq (.seq (.items [] [8])
 (.items [.op (some 22) none (.mov (.t 6)),
 .call (some 23) none (.fn 134) [(.t 22)],
 .op (some 21) none (.mov (.t 23)),
 .op (some 24) none (.extract (.t 21) 0),
 .op (some 25) none (.extract (.t 21) 1),
 .op (some 8) none (.lalloc (.agg [(.bool false), (.int .i64 0), .nils])),
 .op none none (.store 3 (.l 8) (.t 24)),
 .op (some 7) none (.mov (.t 25))] []))
 (.seq (.items [.op (some 26) none (.load (some 3) (.l 8)),
 .op (some 27) none (.mov (.t 7)),
 .op (some 28) none (.bin .eql (.t 27) (.c (.int .i64 0))),
 .op none none (.store 3 (.l 4) (.t 26)),
 .op (some 5) none (.mov (.t 28))] [])
 (.ret))))),
 [.loc 4 (some 3), .tmp 5], 2, false, false⟩
def a104 : Ann := { prom := [4, 8], base := [], hps := [], frz := [], keepArgs := false, keepRes := false, ntmps := 29 }

/-- lapstone/tree.fits -/
def i105 : IRFn :=
 ⟨.seq (.seq (.items [] [2, 3])
 (.items [.op (some 2) none (.lbox (.t 0)),
 .op (some 3) none (.lbox (.t 1)),
 .op (some 4) none (.mov (.c (.bool false)))] []))
 (.seq (.items [.op (some 8) none (.faddr 2 (.l 3)),
 .op (some 9) none (.load none (.s 8 3)),
 .op (some 10) none (.lenV (.t 9)),
 .op (some 5) none (.mov (.t 10))] [8])
 (.seq (.block 0
 (.seq (.seq (.items [.op (some 12) none (.faddr 0 (.l 2)),
 .op (some 13) none (.load none (.s 12 2)),
 .op (some 14) none (.bin .gtr (.t 13) (.c (.int .i64 0))),
 .op (some 15) none (.mov (.t 14)),
 .op (some 16) (some (15, true)) (.mov (.t 5)),
 .op (some 17) (some (15, true)) (.bin .eql (.t 16) (.c (.int .i64 0))),
 .op (some 18) none (.pick (.t 15) (.t 17) (.c (.bool false))),
 .op (some 11) none (.mov (.t 18))] [12])
 (.cond (.t 11)
 (.skip)
 (.seq (.items [.op (some 19) none (.faddr 0 (.l 3)),
 .op (some 20) none (.load none (.s 19 3)),
 .op (some 21) none (.un .not (.t 20)),
 .op (some 22) none (.mov (.t 21)),
 .op (some 23) (some (22, true)) (.faddr 0 (.l 2)),
 .op (some 24) (some (22, true)) (.load none (.s 23 2)),
 .op (some 25) (some (22, true)) (.bin .eql (.t 24) (.c (.int .i64 0))),
 .op (some 26) none (.pick (.t 22) (.t 25) (.c (.bool false))),
 .op (some 27) none (.mov (.t 26)),
 .op (some 28) (some (27, true)) (.mov (.t 5)),
 .op (some 29) (some (27, true)) (.bin .lss (.t 28) (.c (.int .i64 2))),
 .op (some 30) none (.pick (.t 27) (.t 29) (.c (.bool false))),
 .op (some 11) none (.mov (.t 30))] [19, 23])
 (.cond (.t 11)
 (.skip)
 (.items [.op (some 31) none (.faddr 0 (.l 3)),
 .op (some 32) none (.load none (.s 31 3)),
 .op (some 33) none (.un .not (.t 32)),
 .op (some 34) none (.mov (.t 33)),
 .op (some 35) (some (34, true)) (.faddr 1 (.l 3)),
 .op (some 36) (some (34, true)) (.load none (.s 35 3)),
 .op (some 37) (some (34, true)) (.bin .neq (.t 36) (.c (.int .i64 0))),
 .op (some 38) none (.pick (.t 34) (.t 37) (.c (.bool false))),
 .op (some 11) none (.mov (.t 38))] [31, 35])))))
 (.cond (.t 11)
 (.seq (.items [.op (some 4) none (.mov (.c (.bool false)))] [])
 (.ret))
 (.seq (.items [.op (some 40) none (.mov (.t 5)),
 .op (some 41) none (.bin .eql (.t 40) (.c (.int .i64 0))),
 .op (some 39) none (.mov (.t 41))] [])
 (.cond (.t 39)
 (.seq (.items [.op (some 4) none (.mov (.c (.bool true)))] [])
 (.ret))
 (.seq (.items [.op (some 43) none (.faddr 0 (.l 3)),
 .op (some 44) none (.load none (.s 43 3)),
 .op (some 45) none (.un .not (.t 44)),
 .op (some 46) none (.mov (.t 45)),
 .op (some 47) (some (46, true)) (.faddr 2 (.l 3)),
 .op (some 48) (some (46, true)) (.load none (.s 47 3)),
 .op (some 49) (some (46, true)) (.iaddr 2 (.t 48) (.c (.int .i64 0))),
 .op (some 50) (some (46, true)) (.faddr 0 (.t 49)),
 .op (some 51) (some (46, true)) (.load none (.t 50)),
 .op (some 52) (some (46, true)) (.faddr 2 (.l 2)),
 .op (some 53) (some (46, true)) (.load none (.s 52 2)),
 .op (some 54) (some (46, true)) (.bin .neq (.t 51) (.t 53)),
 .op (some 55) none (.pick (.t 46) (.t 54) (.c (.bool false))),
 .op (some 42) none (.mov (.t 55))] [43, 47, 52])
 (.cond (.t 42)
 (.seq (.items [.op (some 4) none (.mov (.c (.bool false)))] [])
 (.ret))
 (.skip))))))))
 (.seq (.seq (.items [.op (some 56) none (.faddr 2 (.l 3)),
 .op (some 57) none (.load none (.s 56 3)),
 .op (some 58) none (.lenV (.t 57)),
 .op (some 59) none (.mov (.c (.int .i64 0)))] [56])
 (.block 1
 (.loop
 (.seq (.items [.op (some 60) none (.bin .lss (.t 59) (.t 58))] [])
 (.seq (.cond (.t 60)
 (.skip)
 (.exit 1))
 (.seq (.block 2
 (.seq (.seq (.items [] [7])
 (.items [.op (some 61) none (.iaddr 2 (.t 57) (.t 59)),
 .op (some 62) none (.load (some 2) (.t 61)),
 .op (some 7) none (.lalloc (.agg [(.str []), (.str [])])),
 .op none none (.store 2 (.l 7) (.t 62))] []))
 (.seq (.items [.op (some 63) none (.faddr 0 (.l 7)),
 .op (some 64) none (.load none (.s 63 7)),
 .op (some 65) none (.faddr 2 (.l 2)),
 .op (some 66) none (.load none (.s 65 2)),
 .op (some 67) none (.bin .lss (.t 64) (.t 66)),
 .op (some 68) none (.mov (.t 67)),
 .op (some 69) (some (68, false)) (.faddr 4 (.l 2)),
 .op (some 70) (some (68, false)) (.load none (.s 69 2)),
 .op (some 71) (some (68, false)) (.un .not (.t 70)),
 .op (some 72) (some (68, false)) (.mov (.t 71)),
 .op (some 73) (some (72, true)) (.faddr 0 (.l 7)),
 .op (some 74) (some (72, true)) (.load none (.s 73 7)),
 .op (some 75) (some (72, true)) (.faddr 3 (.l 2)),
 .op (some 76) (some (72, true)) (.load none (.s 75 2)),
 .op (some 77) (some (72, true)) (.bin .geq (.t 74) (.t 76)),
 .op (some 78) (some (68, false)) (.pick (.t 72) (.t 77) (.c (.bool false))),
 .op (some 79) none (.pick (.t 68) (.c (.bool true)) (.t 78)),
 .op (some 80) none (.mov (.t 79)),
 .op (some 81) (some (80, false)) (.faddr 0 (.l 3)),
 .op (some 82) (some (80, false)) (.load none (.s 81 3)),
 .op (some 83) (some (80, false)) (.un .not (.t 82)),
 .op (some 84) (some (80, false)) (.mov (.t 83)),
 .op (some 85) (some (84, true)) (.load (some 2) (.l 7)),
 .call (some 86) (some (84, true)) (.fn 106) [(.t 85)],
 .op (some 87) (some (84, true)) (.bin .lss (.t 86) (.c (.int .i64 0))),
 .op (some 88) (some (80, false)) (.pick (.t 84) (.t 87) (.c (.bool false))),
 .op (some 89) none (.pick (.t 80) (.c (.bool true)) (.t 88)),
 .op (some 90) none (.mov (.t 89)),
 .op (some 91) (some (90, false)) (.faddr 0 (.l 3)),
 .op (some 92) (some (90, false)) (.load none (.s 91 3)),
 .op (some 93) (some (90, false)) (.un .not (.t 92)),
 .op (some 94) (some (90, false)) (.mov (.t 93)),
 .op (some 95) (some (94, true)) (.load (some 2) (.l 7)),
 .op (some 100) (some (94, true)) (.faddr 1 (.l 7)),
 .op (some 101) (some (94, true)) (.load none (.s 100 7)),
 .call (some 96) (some (94, true)) (.fn 106) [(.t 95)],
 .chk 100 (some (94, true)) (.faddr 1 (.l 7)),
 .chk 101 (some (94, true)) (.load none (.s 100 7)),
 .op (some 97) (some (94, true)) (.cvI .u64 (.t 96)),
 .call (some 98) (some (94, true)) (.fn 88) [(.c .nils), (.t 97)],
 .chk 100 (some (94, true)) (.faddr 1 (.l 7)),
 .chk 101 (some (94, true)) (.load none (.s 100 7)),
 .op (some 99) (some (94, true)) (.cvS (.t 98)),
 .op (some 102) (some (94, true)) (.bin .neq (.t 99) (.t 101)),
 .op (some 103) (some (90, false)) (.pick (.t 94) (.t 102) (.c (.bool false))),
 .op (some 104) none (.pick (.t 90) (.c (.bool true)) (.t 103))] [63, 65, 69, 73, 75, 81, 91, 100])
 (.cond (.t 104)
 (.seq (.items [.op (some 4) none (.mov (.c (.bool false)))] [])
 (.ret))
 (.skip)))))
 (.items [.op (some 105) none (.bin .add (.t 59) (.c (.int .i64 1))),
 .op (some 59) none (.mov (.t 105))] [])))))))
 (.seq (.items [.op (some 4) none (.mov (.c (.bool true)))] [])
 (.ret))))),
 [.tmp 4], 2, false, false⟩
def a105 : Ann := { prom := [2, 3, 7], base := [(8, 3), (12, 2), (19, 3), (23, 2), (31, 3), (35, 3), (43, 3), (47, 3), (52, 2), (56, 3), (63, 7), (65, 2), (69, 2), (73, 7), (75, 2), (81, 3), (91, 3), (100, 7)], hps := [], frz := [], keepArgs := false, keepRes := false, ntmps := 106 }

/-- (*lapstone/wal.Log).bytes -/
def i107 : IRFn :=
 ⟨.seq (.items [.op (some 4) none (.mov (.c .nils))] [])
 (.seq (.items [.op (some 5) none (.mov (.c .nils))] [])
 (.seq (.seq (.items [.op (some 9) none (.mov (.t 0)),
 .op (some 10) none (.nilchk (.t 9)),
 .op (some 11) none (.faddr 3 (.t 10)),
 .op (some 12) none (.load none (.t 11)),
 .op (some 13) none (.mov (.c (.int .i64 0)))] [])
 (.block 0
 (.loop
 (.seq (.items [.op (some 14) none (.bin .lss (.t 13) (.t 12))] [])
 (.seq (.cond (.t 14)
 (.skip)
 (.exit 0))
 (.seq (.block 1
 (.seq (.items [.op (some 15) none (.mov (.t 13)),
 .op (some 6) none (.mov (.t 15))] [])
 (.seq (.items [.op (some 17) none (.mov (.t 0)),
 .op (some 18) none (.nilchk (.t 17)),
 .op (some 19) none (.faddr 0 (.t 18)),
 .op (some 20) none (.load none (.t 19)),
 .op (some 21) none (.mov (.t 0)),
 .op (some 22) none (.nilchk (.t 21)),
 .op (some 23) none (.faddr 1 (.t 22)),
 .op (some 24) none (.load none (.t 23)),
 .op (some 25) none (.mov (.t 1)),
 .op (some 26) none (.mov (.t 0)),
 .op (some 27) none (.nilchk (.t 26)),
 .op (some 28) none (.faddr 3 (.t 27)),
 .op (some 29) none (.load none (.t 28)),
 .op (some 30) none (.bin .mul (.t 25) (.t 29)),
 .op (some 31) none (.bin .add (.t 24) (.t 30)),
 .op (some 32) none (.mov (.t 6)),
 .op (some 33) none (.bin .add (.t 31) (.t 32)),
 .call (some 34) none (.fn 129) [(.t 20), (.t 33)],
 .op (some 16) none (.mov (.t 34)),
 .op (some 35) none (.extract (.t 16) 0),
 .op (some 36) none (.extract (.t 16) 1),
 .op (some 7) none (.mov (.t 35)),
 .op (some 8) none (.mov (.t 36))] [])
 (.seq (.seq (.items [.op (some 37) none (.mov (.t 8)),
 .op (some 38) none (.bin .neq (.t 37) (.c (.int .i64 0)))] [])
 (.cond (.t 38)
 (.exit 0)
 (.skip)))
 (.seq (.items [.op (some 39) none (.mov (.t 5)),
 .op (some 40) none (.mov (.t 7)),
 .op (some 41) none (.append 1 false false false (.t 39) (.t 40)),
 .op (some 5) none (.mov (.t 41))] [])
 (.seq (.items [.op (some 42) none (.mov (.t 7)),
 .op (some 43) none (.lenV (.t 42)),
 .op (some 44) none (.bin .lss (.t 43) (.c (.int .i64 512)))] [])
 (.cond (.t 44)
 (.exit 0)
 (.skip))))))))
 (.items [.op (some 45) none (.bin .add (.t 13) (.c (.int .i64 1))),
 .op (some 13) none (.mov (.t 45))] [])))))))
 (.seq (.items [.op (some 46) none (.mov (.t 5)),
 .op (some 4) none (.mov (.t 46))] [])
 (.ret)))),
 [.tmp 4], 2, false, false⟩
def a107 : Ann := { prom := [], base := [], hps := [], frz := [], keepArgs := false, keepRes := false, ntmps := 47 }

/-- lapstone/record.Get -/
def i108 : IRFn :=
 ⟨.seq (.seq (.items [] [2])
 (.items [.op (some 2) none (.lalloc (.agg [(.int .u64 0), (.str [])])),
 .op (some 3) none (.mov (.c (.int .i64 0))),
 .op (some 4) none (.mov (.c (.bool false)))] []))
 (.seq (.items [.op (some 14) none (.mov (.t 0)),
 .call (some 15) none (.fn 124) [(.t 14), (.c (.int .i64 4))],
 .op (some 13) none (.mov (.t 15)),
 .op (some 16) none (.extract (.t 13) 0),
 .op (some 17) none (.extract (.t 13) 1),
 .op (some 18) none (.extract (.t 13) 2),
 .op (some 5) none (.mov (.t 16)),
 .op (some 6) none (.mov (.t 17)),
 .op (some 7) none (.mov (.t 18))] [])
 (.seq (.seq (.items [.op (some 19) none (.mov (.t 7)),
 .op (some 20) none (.bin .neq (.t 19) (.c (.int .i64 0))),
 .op (some 21) none (.mov (.t 20)),
 .op (some 22) (some (21, false)) (.mov (.t 5)),
 .op (some 23) (some (21, false)) (.mov (.t 6)),
 .op (some 24) (some (21, false)) (.lenV (.t 23)),
 .op (some 25) (some (21, false)) (.cvI .u64 (.t 24)),
 .op (some 26) (some (21, false)) (.bin .gtr (.t 22) (.t 25)),
 .op (some 27) none (.pick (.t 21) (.c (.bool true)) (.t 26))] [])
 (.cond (.t 27)
 (.seq (.items [.op (some 28) none (.build [(.int .u64 0), (.str [])] []),
 .op none none (.store 2 (.l 2) (.t 28)),
 .op (some 3) none (.mov (.c (.int .i64 0))),
 .op (some 4) none (.mov (.c (.bool false)))] [])
 (.ret))
 (.skip)))
 (.seq (.items [.op (some 30) none (.mov (.t 6)),
 .op (some 31) none (.mov (.t 5)),
 .op (some 32) none (.sliceV 1 (.t 30) none (some (.t 31)) none),
 .call (some 33) none (.fn 135) [(.t 32)],
 .op (some 29) none (.mov (.t 33)),
 .op (some 34) none (.extract (.t 29) 0),
 .op (some 35) none (.extract (.t 29) 1),
 .op (some 8) none (.mov (.t 34)),
 .op (some 7) none (.mov (.t 35))] [])
 (.seq (.seq (.items [.op (some 36) none (.mov (.t 7)),
 .op (some 37) none (.bin .neq (.t 36) (.c (.int .i64 0)))] [])
 (.cond (.t 37)
 (.seq (.items [.op (some 38) none (.build [(.int .u64 0), (.str [])] []),
 .op none none (.store 2 (.l 2) (.t 38)),
 .op (some 3) none (.mov (.c (.int .i64 0))),
 .op (some 4) none (.mov (.c (.bool false)))] [])
 (.ret))
 (.skip)))
 (.seq (.items [.op (some 39) none (.mov (.t 8)),
 .call (some 40) none (.fn 47) [(.t 39)],
 .op (some 9) none (.mov (.t 40))] [])
 (.seq (.items [.op (some 41) none (.mov (.t 9)),
 .op (some 42) none (.mkfn (.func 48) [(.t 41)] []),
 .op (some 43) none (.mov (.t 9)),
 .op (some 44) none (.mkfn (.func 74) [(.t 43)] []),
 .op (some 10) none (.mov (.t 42)),
 .op (some 11) none (.mov (.t 44))] [])
 (.seq (.seq (.items [] [12])
 (.items [.op (some 45) none (.mov (.t 10)),
 .call (some 46) none (.dyn (.t 45)) [],
 .op (some 47) none (.mov (.t 11)),
 .call (some 48) none (.dyn (.t 47)) [],
 .op (some 49) none (.build [(.int .u64 0), (.str [])] [(0, 1, (.t 46)), (1, 1, (.t 48))]),
 .op (some 12) none (.lalloc (.agg [(.int .u64 0), (.str [])])),
 .op none none (.store 2 (.l 12) (.t 49))] []))
 (.seq (.seq (.items [.op (some 50) none (.mov (.t 9)),
 .call (some 51) none (.fn 49) [(.t 50)],
 .op (some 52) none (.bin .neq (.t 51) (.c (.int .i64 0))),
 .op (some 53) none (.mov (.t 52)),
 .op (some 54) (some (53, false)) (.faddr 1 (.l 12)),
 .op (some 55) (some (53, false)) (.load none (.s 54 12)),
 .op (some 56) (some (53, false)) (.lenS (.t 55)),
 .op (some 57) (some (53, false)) (.bin .gtr (.t 56) (.c (.int .i64 32768))),
 .op (some 58) none (.pick (.t 53) (.c (.bool true)) (.t 57))] [54])
 (.cond (.t 58)
 (.seq (.items [.op (some 59) none (.build [(.int .u64 0), (.str [])] []),
 .op none none (.store 2 (.l 2) (.t 59)),
 .op (some 3) none (.mov (.c (.int .i64 0))),
 .op (some 4) none (.mov (.c (.bool false)))] [])
 (.ret))
 (.skip)))
 (.seq (.items [.op (some 60) none (.load (some 2) (.l 12)),
 .op (some 61) none (.mov (.t 5)),
 .op (some 62) none (.cvI .i64 (.t 61)),
 .op (some 63) none (.bin .add (.c (.int .i64 4)) (.t 62)),
 .op none none (.store 2 (.l 2) (.t 60)),
 .op (some 3) none (.mov (.t 63)),
 .op (some 4) none (.mov (.c (.bool true)))] [])
 (.ret)))))))))),
 [.loc 2 (some 2), .tmp 3, .tmp 4], 1, false, false⟩
def a108 : Ann := { prom := [2, 12], base := [(54, 12)], hps := [], frz := [], keepArgs := false, keepRes := false, ntmps := 64 }

/-- lapstone/record.Scan -/
def i109 : IRFn :=
 ⟨.seq (.items [.op (some 4) none (.mov (.c .nils)),
 .op (some 5) none (.mov (.c (.int .i64 0)))] [])
 (.seq (.items [.op (some 6) none (.halloc [.nils])] [])
 (.seq (.items [.op (some 7) none (.halloc [(.int .i64 0)]),
 .op none none (.store 1 (.t 7) (.c (.int .i64 0)))] [])
 (.seq (.items [.op (some 13) none (.mkfn (.func 136) [] [(.t 6), (.t 7)]),
 .op (some 8) none (.mov (.t 13))] [])
 (.seq (.seq (.items [.op (some 14) none (.mov (.t 0)),
 .op (some 15) none (.lenV (.t 14)),
 .op (some 16) none (.mov (.c (.int .i64 0)))] [])
 (.block 0
 (.loop
 (.seq (.items [.op (some 17) none (.bin .lss (.t 16) (.t 15))] [])
 (.seq (.cond (.t 17)
 (.skip)
 (.exit 0))
 (.seq (.block 1
 (.seq (.items [.op (some 18) none (.mov (.t 16)),
 .op (some 9) none (.mov (.t 18))] [])
 (.seq (.seq (.items [] [10])
 (.items [.op (some 20) none (.mov (.t 0)),
 .op (some 21) none (.load none (.t 7)),
 .op (some 22) none (.sliceV 1 (.t 20) (some (.t 21)) none none),
 .call (some 23) none (.fn 108) [(.t 22)],
 .op (some 19) none (.mov (.t 23)),
 .op (some 24) none (.extract (.t 19) 0),
 .op (some 25) none (.extract (.t 19) 1),
 .op (some 26) none (.extract (.t 19) 2),
 .op (some 10) none (.lalloc (.agg [(.int .u64 0), (.str [])])),
 .op none none (.store 2 (.l 10) (.t 24)),
 .op (some 11) none (.mov (.t 25)),
 .op (some 12) none (.mov (.t 26))] []))
 (.seq (.seq (.items [.op (some 27) none (.mov (.t 12)),
 .op (some 28) none (.un .not (.t 27)),
 .op (some 29) none (.mov (.t 28)),
 .op (some 30) (some (29, false)) (.faddr 0 (.l 10)),
 .op (some 31) (some (29, false)) (.load none (.s 30 10)),
 .op (some 32) (some (29, false)) (.mov (.t 1)),
 .op (some 33) (some (29, false)) (.mov (.t 9)),
 .op (some 34) (some (29, false)) (.cvI .u64 (.t 33)),
 .op (some 35) (some (29, false)) (.bin .add (.t 32) (.t 34)),
 .op (some 36) (some (29, false)) (.bin .neq (.t 31) (.t 35)),
 .op (some 37) none (.pick (.t 29) (.c (.bool true)) (.t 36))] [30])
 (.cond (.t 37)
 (.exit 0)
 (.skip)))
 (.items [.op (some 38) none (.mov (.t 8)),
 .op (some 39) none (.load (some 2) (.l 10)),
 .op (some 40) none (.mov (.t 11)),
 .call (some 41) none (.dyn (.t 38)) [(.t 39), (.t 40)]] [])))))
 (.items [.op (some 42) none (.bin .add (.t 16) (.c (.int .i64 1))),
 .op (some 16) none (.mov (.t 42))] [])))))))
 (.seq (.items [.op (some 43) none (.load none (.t 6)),
 .op (some 44) none (.load none (.t 7)),
 .op (some 4) none (.mov (.t 43)),
 .op (some 5) none (.mov (.t 44))] [])
 (.ret)))))),
 [.tmp 4, .tmp 5], 2, false, false⟩
def a109 : Ann := { prom := [10], base := [(30, 10)], hps := [], frz := [], keepArgs := false, keepRes := false, ntmps := 45 }

/-- slices.ContainsFunc[[]lapstone/wal.segment,lapstone/wal.segment] -/
def i110 : IRFn :=
 ⟨.seq (.items [.op (some 4) none (.mov (.c (.bool false)))] [])
 (.seq (.items [.op (some 5) none (.mov (.t 0)),
 .op (some 6) none (.mov (.t 1)),
 .call (some 7) none (.fn 137) [(.t 5), (.t 6)],
 .op (some 8) none (.bin .geq (.t 7) (.c (.int .i64 0))),
 .op (some 4) none (.mov (.t 8))] [])
 (.ret)),
 [.tmp 4], 2, false, false⟩
def a110 : Ann := { prom := [], base := [], hps := [], frz := [], keepArgs := false, keepRes := false, ntmps := 9 }

/-- (*lapstone/wal.Log).used$1 -/
def i111 : IRFn :=
 ⟨.seq (.seq (.items [] [2])
 (.items [.op (some 2) none (.lbox (.t 0)),
 .op (some 3) none (.mov (.c (.bool false)))] []))
 (.seq (.items [.op (some 4) none (.faddr 0 (.l 2)),
 .op (some 5) none (.load none (.s 4 2)),
 .op (some 6) none (.load none (.t 1)),
 .op (some 7) none (.bin .eql (.t 5) (.t 6)),
 .op (some 3) none (.mov (.t 7))] [4])
 (.ret)),
 [.tmp 3], 2, false, false⟩
def a111 : Ann := { prom := [2], base := [(4, 2)], hps := [], frz := [], keepArgs := false, keepRes := false, ntmps := 8 }

/-- (*lapstone/disk.Disk).Free -/
def i112 : IRFn :=
 ⟨.seq (.items [.op (some 4) none (.mov (.c (.int .i64 0)))] [])
 (.seq (.seq (.items [.op (some 8) none (.mov (.t 0)),
 .op (some 9) none (.nilchk (.t 8)),
 .op (some 10) none (.faddr 2 (.t 9)),
 .op (some 11) none (.load none (.t 10)),
 .op (some 12) none (.mov (.t 1)),
 .op (some 13) none (.lookup 0 .nils true (.t 11) (.t 12)),
 .op (some 7) none (.mov (.t 13)),
 .op (some 14) none (.extract (.t 7) 0),
 .op (some 15) none (.extract (.t 7) 1),
 .op (some 5) none (.mov (.t 14)),
 .op (some 6) none (.mov (.t 15))] [])
 (.seq (.items [.op (some 16) none (.mov (.t 6)),
 .op (some 17) none (.un .not (.t 16))] [])
 (.cond (.t 17)
 (.seq (.items [.op (some 4) none (.mov (.c (.int .i64 61)))] [])
 (.ret))
 (.skip))))
 (.seq (.items [.op (some 18) none (.mov (.t 0)),
 .op (some 19) none (.mov (.t 1)),
 .call (some 20) none (.fn 139) [(.t 19)],
 .call (some 21) none (.fn 138) [(.t 18), (.t 20), (.c (.int .i64 0))]] [])
 (.seq (.items [.op (some 4) none (.mov (.c (.int .i64 0)))] [])
 (.ret)))),
 [.tmp 4], 2, false, false⟩
def a112 : Ann := { prom := [], base := [], hps := [], frz := [], keepArgs := false, keepRes := false, ntmps := 22 }

/-- (*lapstone/code.Reader).below -/
def i113 : IRFn :=
 ⟨.seq (.items [.op (some 6) none (.mov (.c (.int .i64 0))),
 .op (some 7) none (.mov (.c .nils)),
 .op (some 8) none (.mov (.c (.bool false)))] [])
 (.seq (.items [.op (some 13) none (.mov (.t 1)),
 .call (some 14) none (.dyn (.t 13)) [],
 .op (some 12) none (.mov (.t 14)),
 .op (some 15) none (.extract (.t 12) 0),
 .op (some 16) none (.extract (.t 12) 1),
 .op (some 17) none (.extract (.t 12) 2),
 .op (some 9) none (.mov (.t 15)),
 .op (some 10) none (.mov (.t 16)),
 .op (some 11) none (.mov (.t 17))] [])
 (.seq (.seq (.items [.op (some 18) none (.mov (.t 11)),
 .op (some 19) none (.mov (.t 18)),
 .op (some 20) (some (19, true)) (.mov (.t 2)),
 .op (some 21) (some (19, true)) (.bin .lss (.t 20) (.c (.int .i64 0))),
 .op (some 22) (some (19, true)) (.mov (.t 21)),
 .op (some 23) (some (22, false)) (.mov (.t 9)),
 .op (some 24) (some (22, false)) (.mov (.t 2)),
 .op (some 25) (some (22, false)) (.cvI .u64 (.t 24)),
 .op (some 26) (some (22, false)) (.bin .gtr (.t 23) (.t 25)),
 .op (some 27) (some (19, true)) (.pick (.t 22) (.c (.bool true)) (.t 26)),
 .op (some 28) none (.pick (.t 19) (.t 27) (.c (.bool false)))] [])
 (.cond (.t 28)
 (.items [.op (some 29) none (.mov (.t 0)),
 .call (some 30) none (.fn 114) [(.t 29), (.c (.int .i64 32))],
 .op (some 11) none (.mov (.t 30))] [])
 (.skip)))
 (.seq (.seq (.items [.op (some 31) none (.mov (.t 11)),
 .op (some 32) none (.un .not (.t 31))] [])
 (.cond (.t 32)
 (.seq (.items [.op (some 6) none (.mov (.c (.int .i64 0))),
 .op (some 7) none (.mov (.c .nils)),
 .op (some 8) none (.mov (.c (.bool false)))] [])
 (.ret))
 (.skip)))
 (.seq (.items [.op (some 33) none (.mov (.t 9)),
 .op (some 34) none (.cvI .i64 (.t 33)),
 .op (some 35) none (.mov (.t 10)),
 .op (some 6) none (.mov (.t 34)),
 .op (some 7) none (.mov (.t 35)),
 .op (some 8) none (.mov (.c (.bool true)))] [])
 (.ret))))),
 [.tmp 6, .tmp 7, .tmp 8], 3, false, false⟩
def a113 : Ann := { prom := [], base := [], hps := [], frz := [], keepArgs := false, keepRes := false, ntmps := 36 }

/-- lapstone/page.Put -/
def i118 : IRFn :=
 ⟨.seq (.seq (.items [] [2, 3, 4])
 (.items [.op (some 2) none (.lbox (.t 0)),
 .op (some 3) none (.lbox (.t 1)),
 .op (some 4) none (.lalloc (.agg [(.bool false), (.int .i64 0), .nils])),
 .op (some 5) none (.mov (.c (.int .i64 0)))] []))
 (.seq (.seq (.items [.op (some 9) none (.load (some 2) (.l 3)),
 .call (some 10) none (.fn 146) [(.t 9)]] [])
 (.cond (.t 10)
 (.seq (.items [.op (some 11) none (.build [(.bool false), (.int .i64 0), .nils] []),
 .op none none (.store 3 (.l 4) (.t 11)),
 .op (some 5) none (.mov (.c (.int .i64 100)))] [])
 (.ret))
 (.skip)))
 (.seq (.items [.op (some 13) none (.load (some 3) (.l 2)),
 .op (some 14) none (.faddr 0 (.l 3)),
 .op (some 15) none (.load none (.s 14 3)),
 .call (some 16) none (.fn 85) [(.t 13), (.t 15)],
 .op (some 12) none (.mov (.t 16)),
 .op (some 17) none (.extract (.t 12) 0),
 .op (some 18) none (.extract (.t 12) 1),
 .op (some 6) none (.mov (.t 17)),
 .op (some 7) none (.mov (.t 18))] [14])
 (.seq (.items [.op (some 19) none (.faddr 2 (.l 2)),
 .op (some 20) none (.load none (.s 19 2)),
 .call (some 21) none (.fn 142) [(.t 20)],
 .op (some 8) none (.mov (.t 21))] [19])
 (.seq (.seq (.items [.op (some 22) none (.mov (.t 7))] [])
 (.cond (.t 22)
 (.items [.op (some 23) none (.mov (.t 8)),
 .op (some 24) none (.mov (.t 6)),
 .op (some 25) none (.load (some 2) (.l 3)),
 .op (some 26) none (.iaddr 2 (.t 23) (.t 24)),
 .op none none (.store 2 (.t 26) (.t 25))] [])
 (.items [.op (some 27) none (.mov (.t 8)),
 .op (some 28) none (.mov (.t 6)),
 .op (some 29) none (.load (some 2) (.l 3)),
 .op (some 30) none (.bslice false (.agg [(.str []), (.str [])]) 1 [(0, (.t 29))]),
 .call (some 31) none (.fn 147) [(.t 27), (.t 28), (.t 30)],
 .op (some 8) none (.mov (.t 31))] [])))
 (.seq (.items [.op (some 32) none (.load (some 3) (.l 2)),
 .op (some 33) none (.mov (.t 8)),
 .op (some 33) none (.freeze 2 true none (.t 33)),
 .call (some 34) none (.fn 140) [(.t 32), (.t 33)],
 .op none none (.store 3 (.l 4) (.t 34)),
 .op (some 5) none (.mov (.c (.int .i64 0)))] [])
 (.ret)))))),
 [.loc 4 (some 3), .tmp 5], 2, false, false⟩
def a118 : Ann := { prom := [2, 3, 4], base := [(14, 3), (19, 2)], hps := [], frz := [(8, 1, none)], keepArgs := false, keepRes := false, ntmps := 35 }

/-- (*lapstone/tree.Tree).up -/
def i119 : IRFn :=
 ⟨.seq (.seq (.items [] [7])
 (.items [.op (some 7) none (.lbox (.t 3))] []))
 (.seq (.block 0
 (.loop
 (.seq (.seq (.items [.op (some 13) none (.load (some 3) (.l 7)),
 .call (some 14) none (.fn 143) [(.t 13)],
 .op (some 15) none (.bin .gtr (.t 14) (.c (.int .i64 2048)))] [])
 (.cond (.t 15)
 (.skip)
 (.exit 0)))
 (.block 1
 (.seq (.seq (.items [] [8, 9])
 (.items [.op (some 17) none (.load (some 3) (.l 7)),
 .call (some 18) none (.fn 148) [(.t 17)],
 .op (some 16) none (.mov (.t 18)),
 .op (some 19) none (.extract (.t 16) 0),
 .op (some 20) none (.extract (.t 16) 1),
 .op (some 21) none (.extract (.t 16) 2),
 .op (some 8) none (.lalloc (.agg [(.bool false), (.int .i64 0), .nils])),
 .op (some 9) none (.lalloc (.agg [(.bool false), (.int .i64 0), .nils])),
 .op none none (.store 3 (.l 8) (.t 19)),
 .op none none (.store 3 (.l 9) (.t 20)),
 .op (some 10) none (.mov (.t 21))] []))
 (.seq (.seq (.items [.op (some 22) none (.mov (.t 2)),
 .op (some 23) none (.bin .eql (.t 22) (.c (.int .i64 0)))] [])
 (.cond (.t 23)
 (.seq (.items [.op (some 24) none (.mov (.t 0)),
 .op (some 25) none (.load (some 3) (.l 8)),
 .op (some 26) none (.load (some 3) (.l 9)),
 .call (some 27) none (.fn 149) [(.t 24), (.t 25), (.t 26)]] [])
 (.ret))
 (.skip)))
 (.seq (.seq (.items [.op (some 28) none (.faddr 0 (.l 7)),
 .op (some 29) none (.load none (.s 28 7)),
 .op (some 30) none (.un .not (.t 29))] [28])
 (.cond (.t 30)
 (.items [.op (some 31) none (.faddr 1 (.l 9)),
 .op none none (.store 1 (.s 31 9) (.c (.int .i64 0)))] [31])
 (.skip)))
 (.seq (.items [.op (some 32) none (.mov (.t 0)),
 .op (some 33) none (.load (some 3) (.l 9)),
 .call (some 34) none (.fn 150) [(.t 32), (.t 33)],
 .op (some 11) none (.mov (.t 34))] [])
 (.seq (.seq (.items [.op (some 35) none (.faddr 0 (.l 7)),
 .op (some 36) none (.load none (.s 35 7))] [35])
 (.cond (.t 36)
 (.items [.op (some 37) none (.mov (.t 11)),
 .op (some 38) none (.faddr 1 (.l 8)),
 .op none none (.store 1 (.s 38 8) (.t 37))] [38])
 (.skip)))
 (.seq (.items [.op (some 39) none (.mov (.t 0)),
 .op (some 40) none (.mov (.t 2)),
 .op (some 41) none (.load (some 3) (.l 8)),
 .call (some 42) none (.fn 65) [(.t 39), (.t 40), (.t 41)]] [])
 (.seq (.seq (.items [] [12])
 (.items [.op (some 43) none (.mov (.t 1)),
 .op (some 44) none (.mov (.t 1)),
 .op (some 45) none (.lenV (.t 44)),
 .op (some 46) none (.bin .sub (.t 45) (.c (.int .i64 1))),
 .op (some 47) none (.iaddr 5 (.t 43) (.t 46)),
 .op (some 48) none (.load (some 5) (.t 47)),
 .op (some 12) none (.lalloc (.agg [(.int .i64 0), (.int .i64 0), (.bool false), (.int .i64 0), .nils])),
 .op none none (.store 5 (.l 12) (.t 48))] []))
 (.seq (.items [.op (some 49) none (.mov (.t 1)),
 .op (some 50) none (.mov (.t 1)),
 .op (some 51) none (.lenV (.t 50)),
 .op (some 52) none (.bin .sub (.t 51) (.c (.int .i64 1))),
 .op (some 53) none (.sliceV 5 (.t 49) none (some (.t 52)) none),
 .op (some 1) none (.mov (.t 53))] [])
 (.seq (.items [.op (some 54) none (.faddr 0 (.l 12)),
 .op (some 55) none (.load none (.s 54 12)),
 .op (some 2) none (.mov (.t 55))] [54])
 (.items [.op (some 57) none (.faddr 2 (.l 12)),
 .op (some 58) none (.load (some 3) (.s 57 12)),
 .op (some 59) none (.faddr 2 (.l 9)),
 .op (some 60) none (.load none (.s 59 9)),
 .op (some 61) none (.iaddr 2 (.t 60) (.c (.int .i64 0))),
 .op (some 62) none (.faddr 0 (.t 61)),
 .op (some 63) none (.load none (.t 62)),
 .op (some 64) none (.mov (.t 11)),
 .call (some 65) none (.fn 151) [(.t 63), (.t 64)],
 .chk 57 none (.faddr 2 (.l 12)),
 .chk 58 none (.load (some 3) (.s 57 12)),
 .call (some 66) none (.fn 118) [(.t 58), (.t 65)],
 .op (some 56) none (.mov (.t 66)),
 .op (some 67) none (.extract (.t 56) 0),
 .op (some 68) none (.extract (.t 56) 1),
 .op none none (.store 3 (.l 7) (.t 67))] [57, 59]))))))))))))))
 (.items [.op (some 69) none (.mov (.t 0)),
 .op (some 70) none (.mov (.t 2)),
 .op (some 71) none (.load (some 3) (.l 7)),
 .call (some 72) none (.fn 65) [(.t 69), (.t 70), (.t 71)]] [])),
 [], 4, false, false⟩
def a119 : Ann := { prom := [7, 8, 9, 12], base := [(28, 7), (31, 9), (35, 7), (38, 8), (54, 12), (57, 12), (59, 9)], hps := [], frz := [], keepArgs := false, keepRes := false, ntmps := 73 }

/-- sort.Search -/
def i121 : IRFn :=
 ⟨.seq (.items [.op (some 4) none (.mov (.c (.int .i64 0)))] [])
 (.seq (.items [.op (some 8) none (.mov (.t 0)),
 .op (some 5) none (.mov (.c (.int .i64 0))),
 .op (some 6) none (.mov (.t 8))] [])
 (.seq (.block 0
 (.loop
 (.seq (.seq (.items [.op (some 9) none (.mov (.t 5)),
 .op (some 10) none (.mov (.t 6)),
 .op (some 11) none (.bin .lss (.t 9) (.t 10))] [])
 (.cond (.t 11)
 (.skip)
 (.exit 0)))
 (.block 1
 (.seq (.items [.op (some 12) none (.mov (.t 5)),
 .op (some 13) none (.mov (.t 6)),
 .op (some 14) none (.bin .add (.t 12) (.t 13)),
 .op (some 15) none (.cvI .u64 (.t 14)),
 .op (some 16) none (.bin .shr (.t 15) (.c (.int .u64 1))),
 .op (some 17) none (.cvI .i64 (.t 16)),
 .op (some 7) none (.mov (.t 17))] [])
 (.seq (.items [.op (some 18) none (.mov (.t 1)),
 .op (some 19) none (.mov (.t 7)),
 .call (some 20) none (.dyn (.t 18)) [(.t 19)],
 .op (some 21) none (.un .not (.t 20))] [])
 (.cond (.t 21)
 (.items [.op (some 22) none (.mov (.t 7)),
 .op (some 23) none (.bin .add (.t 22) (.c (.int .i64 1))),
 .op (some 5) none (.mov (.t 23))] [])
 (.items [.op (some 24) none (.mov (.t 7)),
 .op (some 6) none (.mov (.t 24))] []))))))))
 (.seq (.items [.op (some 25) none (.mov (.t 5)),
 .op (some 4) none (.mov (.t 25))] [])
 (.ret)))),
 [.tmp 4], 2, false, false⟩
def a121 : Ann := { prom := [], base := [], hps := [], frz := [], keepArgs := false, keepRes := false, ntmps := 26 }

/-- lapstone/page.Find$1 -/
def i122 : IRFn :=
 ⟨.seq (.items [.op (some 4) none (.mov (.c (.bool false)))] [])
 (.seq (.items [.op (some 5) none (.faddr 2 (.t 1)),
 .op (some 6) none (.load none (.t 5)),
 .op (some 7) none (.mov (.t 0)),
 .op (some 8) none (.iaddr 2 (.t 6) (.t 7)),
 .op (some 9) none (.faddr 0 (.t 8)),
 .op (some 10) none (.load none (.t 9)),
 .op (some 11) none (.load none (.t 2)),
 .op (some 12) none (.bin .geq (.t 10) (.t 11)),
 .op (some 4) none (.mov (.t 12))] [])
 (.ret)),
 [.tmp 4], 3, false, false⟩
def a122 : Ann := { prom := [], base := [], hps := [], frz := [], keepArgs := false, keepRes := false, ntmps := 13 }

/-- lapstone/num.GetVar -/
def i123 : IRFn :=
 ⟨.seq (.items [.op (some 2) none (.mov (.c (.int .u64 0))),
 .op (some 3) none (.mov (.c .nils)),
 .op (some 4) none (.mov (.c (.int .i64 0)))] [])
 (.seq (.items [.op (some 5) none (.mov (.c (.int .u64 0)))] [])
 (.seq (.seq (.items [.op (some 8) none (.mov (.t 0)),
 .op (some 9) none (.lenV (.t 8)),
 .op (some 10) none (.mov (.c (.int .i64 0)))] [])
 (.block 0
 (.loop
 (.seq (.items [.op (some 11) none (.bin .lss (.t 10) (.t 9))] [])
 (.seq (.cond (.t 11)
 (.skip)
 (.exit 0))
 (.seq (.block 1
 (.seq (.items [.op (some 12) none (.mov (.t 10)),
 .op (some 6) none (.mov (.t 12))] [])
 (.seq (.items [.op (some 13) none (.mov (.t 0)),
 .op (some 14) none (.mov (.t 6)),
 .op (some 15) none (.iaddr 1 (.t 13) (.t 14)),
 .op (some 16) none (.load none (.t 15)),
 .op (some 7) none (.mov (.t 16))] [])
 (.block 2
 (.seq (.seq (.items [.op (some 27) none (.mov (.t 6)),
 .op (some 28) none (.bin .eql (.t 27) (.c (.int .i64 9))),
 .op (some 29) none (.mov (.t 28)),
 .op (some 30) (some (29, true)) (.mov (.t 7)),
 .op (some 31) (some (29, true)) (.bin .gtr (.t 30) (.c (.int .u8 1))),
 .op (some 32) none (.pick (.t 29) (.t 31) (.c (.bool false))),
 .op (some 26) none (.mov (.t 32))] [])
 (.cond (.t 26)
 (.skip)
 (.items [.op (some 33) none (.mov (.t 6)),
 .op (some 34) none (.bin .gtr (.t 33) (.c (.int .i64 0))),
 .op (some 35) none (.mov (.t 34)),
 .op (some 36) (some (35, true)) (.mov (.t 7)),
 .op (some 37) (some (35, true)) (.bin .eql (.t 36) (.c (.int .u8 0))),
 .op (some 38) none (.pick (.t 35) (.t 37) (.c (.bool false))),
 .op (some 26) none (.mov (.t 38))] [])))
 (.cond (.t 26)
 (.seq (.items [.op (some 2) none (.mov (.c (.int .u64 0))),
 .op (some 3) none (.mov (.c .nils)),
 .op (some 4) none (.mov (.c (.int .i64 12)))] [])
 (.ret))
 (.seq (.items [.op (some 40) none (.mov (.t 7)),
 .op (some 41) none (.bin .lss (.t 40) (.c (.int .u8 128))),
 .op (some 39) none (.mov (.t 41))] [])
 (.cond (.t 39)
 (.seq (.items [.op (some 42) none (.mov (.t 5)),
 .op (some 43) none (.mov (.t 7)),
 .op (some 44) none (.cvI .u64 (.t 43)),
 .op (some 45) none (.mov (.t 6)),
 .op (some 46) none (.bin .mul (.c (.int .i64 7)) (.t 45)),
 .op (some 47) none (.cvI .u64 (.t 46)),
 .op (some 48) none (.bin .shl (.t 44) (.t 47)),
 .op (some 49) none (.bin .or (.t 42) (.t 48)),
 .op (some 50) none (.bslice false (.int .u8 0) 0 []),
 .op (some 51) none (.mov (.t 0)),
 .op (some 52) none (.mov (.t 6)),
 .op (some 53) none (.bin .add (.t 52) (.c (.int .i64 1))),
 .op (some 54) none (.sliceV 1 (.t 51) (some (.t 53)) none none),
 .op (some 55) none (.append 1 false false false (.t 50) (.t 54)),
 .op (some 2) none (.mov (.t 49)),
 .op (some 3) none (.mov (.t 55)),
 .op (some 4) none (.mov (.c (.int .i64 0)))] [])
 (.ret))
 (.items [.op (some 17) none (.mov (.t 5)),
 .op (some 18) none (.mov (.t 7)),
 .op (some 19) none (.bin .and (.t 18) (.c (.int .u8 127))),
 .op (some 20) none (.cvI .u64 (.t 19)),
 .op (some 21) none (.mov (.t 6)),
 .op (some 22) none (.bin .mul (.c (.int .i64 7)) (.t 21)),
 .op (some 23) none (.cvI .u64 (.t 22)),
 .op (some 24) none (.bin .shl (.t 20) (.t 23)),
 .op (some 25) none (.bin .or (.t 17) (.t 24)),
 .op (some 5) none (.mov (.t 25))] [])))))))))
 (.items [.op (some 56) none (.bin .add (.t 10) (.c (.int .i64 1))),
 .op (some 10) none (.mov (.t 56))] [])))))))
 (.seq (.items [.op (some 2) none (.mov (.c (.int .u64 0))),
 .op (some 3) none (.mov (.c .nils)),
 .op (some 4) none (.mov (.c (.int .i64 10)))] [])
 (.ret)))),
 [.tmp 2, .tmp 3, .tmp 4], 1, false, false⟩
def a123 : Ann := { prom := [], base := [], hps := [], frz := [], keepArgs := false, keepRes := false, ntmps := 57 }

/-- lapstone/num.Get -/
def i124 : IRFn :=
 ⟨.seq (.items [.op (some 4) none (.mov (.c (.int .u64 0))),
 .op (some 5) none (.mov (.c .nils)),
 .op (some 6) none (.mov (.c (.int .i64 0)))] [])
 (.seq (.block 0
 (.seq (.items [.op (some 10) none (.mov (.t 1)),
 .op (some 11) none (.bin .lss (.t 10) (.c (.int .i64 1))),
 .op (some 12) none (.mov (.t 11)),
 .op (some 13) (some (12, false)) (.mov (.t 1)),
 .op (some 14) (some (12, false)) (.bin .gtr (.t 13) (.c (.int .i64 8))),
 .op (some 15) none (.pick (.t 12) (.c (.bool true)) (.t 14)),
 .op (some 9) none (.mov (.t 15))] [])
 (.cond (.t 9)
 (.seq (.items [.op (some 4) none (.mov (.c (.int .u64 0))),
 .op (some 5) none (.mov (.c .nils)),
 .op (some 6) none (.mov (.c (.int .i64 11)))] [])
 (.ret))
 (.seq (.items [.op (some 17) none (.mov (.t 0)),
 .op (some 18) none (.lenV (.t 17)),
 .op (some 19) none (.mov (.t 1)),
 .op (some 20) none (.bin .lss (.t 18) (.t 19)),
 .op (some 16) none (.mov (.t 20))] [])
 (.cond (.t 16)
 (.seq (.items [.op (some 4) none (.mov (.c (.int .u64 0))),
 .op (some 5) none (.mov (.c .nils)),
 .op (some 6) none (.mov (.c (.int .i64 10)))] [])
 (.ret))
 (.skip))))))
 (.seq (.items [.op (some 7) none (.mov (.c (.int .u64 0)))] [])
 (.seq (.seq (.items [.op (some 21) none (.mov (.t 1)),
 .op (some 22) none (.mov (.c (.int .i64 0)))] [])
 (.block 1
 (.loop
 (.seq (.items [.op (some 23) none (.bin .lss (.t 22) (.t 21))] [])
 (.seq (.cond (.t 23)
 (.skip)
 (.exit 1))
 (.seq (.block 2
 (.seq (.items [.op (some 24) none (.mov (.t 22)),
 .op (some 8) none (.mov (.t 24))] [])
 (.items [.op (some 25) none (.mov (.t 7)),
 .op (some 26) none (.bin .shl (.t 25) (.c (.int .u64 8))),
 .op (some 27) none (.mov (.t 0)),
 .op (some 28) none (.mov (.t 8)),
 .op (some 29) none (.iaddr 1 (.t 27) (.t 28)),
 .op (some 30) none (.load none (.t 29)),
 .op (some 31) none (.cvI .u64 (.t 30)),
 .op (some 32) none (.bin .or (.t 26) (.t 31)),
 .op (some 7) none (.mov (.t 32))] [])))
 (.items [.op (some 33) none (.bin .add (.t 22) (.c (.int .i64 1))),
 .op (some 22) none (.mov (.t 33))] [])))))))
 (.seq (.items [.op (some 34) none (.mov (.t 7)),
 .op (some 35) none (.bslice false (.int .u8 0) 0 []),
 .op (some 36) none (.mov (.t 0)),
 .op (some 37) none (.mov (.t 1)),
 .op (some 38) none (.sliceV 1 (.t 36) (some (.t 37)) none none),
 .op (some 39) none (.append 1 false false false (.t 35) (.t 38)),
 .op (some 4) none (.mov (.t 34)),
 .op (some 5) none (.mov (.t 39)),
 .op (some 6) none (.mov (.c (.int .i64 0)))] [])
 (.ret))))),
 [.tmp 4, .tmp 5, .tmp 6], 2, false, false⟩
def a124 : Ann := { prom := [], base := [], hps := [], frz := [], keepArgs := false, keepRes := false, ntmps := 40 }

/-- lapstone/num.Put$1 -/
def i125 : IRFn :=
 ⟨.items [.op (some 4) none (.load none (.t 1)),
 .op (some 5) none (.load none (.t 2)),
 .op (some 6) none (.mov (.t 0)),
 .op (some 7) none (.bin .shr (.t 5) (.t 6)),
 .op (some 8) none (.cvI .u8 (.t 7)),
 .op (some 9) none (.bslice false (.int .u8 0) 1 [(0, (.t 8))]),
 .op (some 10) none (.append 1 false false false (.t 4) (.t 9)),
 .op none none (.store 1 (.t 1) (.t 10))] [],
 [], 3, false, false⟩
def a125 : Ann := { prom := [], base := [], hps := [], frz := [], keepArgs := false, keepRes := false, ntmps := 11 }

/-- lapstone/sum.Seal -/
def i126 : IRFn :=
 ⟨.seq (.items [.op (some 2) none (.mov (.c .nils))] [])
 (.seq (.items [.op (some 6) none (.mov (.t 0)),
 .op (some 7) none (.mov (.t 0)),
 .call (some 8) none (.fn 152) [(.t 7)],
 .op (some 9) none (.cvI .u64 (.t 8)),
 .call (some 10) none (.fn 90) [(.t 6), (.t 9), (.c (.int .i64 4))],
 .op (some 5) none (.mov (.t 10)),
 .op (some 11) none (.extract (.t 5) 0),
 .op (some 12) none (.extract (.t 5) 1),
 .op (some 3) none (.mov (.t 11)),
 .op (some 4) none (.mov (.t 12))] [])
 (.seq (.items [.op (some 13) none (.mov (.t 3)),
 .op (some 2) none (.mov (.t 13))] [])
 (.ret))),
 [.tmp 2], 1, false, false⟩
def a126 : Ann := { prom := [], base := [], hps := [], frz := [], keepArgs := false, keepRes := false, ntmps := 14 }

/-- lapstone/record.fields -/
def i127 : IRFn :=
 ⟨.seq (.seq (.items [] [1])
 (.items [.op (some 1) none (.lbox (.t 0)),
 .op (some 2) none (.mov (.c .nils))] []))
 (.seq (.items [.call (some 6) none (.fn 55) [],
 .op (some 3) none (.mov (.t 6))] [])
 (.seq (.items [.op (some 7) none (.mov (.t 3)),
 .op (some 8) none (.faddr 0 (.l 1)),
 .op (some 9) none (.load none (.s 8 1)),
 .op (some 10) none (.bslice false (.int .u64 0) 1 [(0, (.t 9))]),
 .call (some 11) none (.fn 56) [(.t 7), (.t 10)]] [8])
 (.seq (.items [.op (some 12) none (.mov (.t 3)),
 .op (some 13) none (.faddr 1 (.l 1)),
 .op (some 14) none (.load none (.s 13 1)),
 .op (some 15) none (.bslice false (.str []) 1 [(0, (.t 14))]),
 .call (some 16) none (.fn 96) [(.t 12), (.t 15)]] [13])
 (.seq (.items [.op (some 18) none (.mov (.t 3)),
 .call (some 19) none (.fn 57) [(.t 18)],
 .op (some 17) none (.mov (.t 19)),
 .op (some 20) none (.extract (.t 17) 0),
 .op (some 21) none (.extract (.t 17) 1),
 .op (some 4) none (.mov (.t 20)),
 .op (some 5) none (.mov (.t 21))] [])
 (.seq (.items [.op (some 22) none (.mov (.t 4)),
 .op (some 2) none (.mov (.t 22))] [])
 (.ret)))))),
 [.tmp 2], 1, false, false⟩
def a127 : Ann := { prom := [1], base := [(8, 1), (13, 1)], hps := [], frz := [], keepArgs := false, keepRes := false, ntmps := 23 }

/-- (*lapstone/disk.Disk).Write -/
def i128 : IRFn :=
 ⟨.seq (.items [.op (some 6) none (.mov (.c (.int .i64 0)))] [])
 (.seq (.items [.op (some 10) none (.mov (.t 0)),
 .op (some 11) none (.nilchk (.t 10)),
 .op (some 12) none (.faddr 2 (.t 11)),
 .op (some 13) none (.load none (.t 12)),
 .op (some 14) none (.mov (.t 1)),
 .op (some 15) none (.lookup 0 .nils true (.t 13) (.t 14)),
 .op (some 9) none (.mov (.t 15)),
 .op (some 16) none (.extract (.t 9) 0),
 .op (some 17) none (.extract (.t 9) 1),
 .op (some 7) none (.mov (.t 16)),
 .op (some 8) none (.mov (.t 17))] [])
 (.seq (.block 0
 (.seq (.items [.op (some 19) none (.mov (.t 1)),
 .op (some 20) none (.bin .lss (.t 19) (.c (.int .i64 0))),
 .op (some 21) none (.mov (.t 20)),
 .op (some 22) (some (21, false)) (.mov (.t 1)),
 .op (some 23) (some (21, false)) (.mov (.t 0)),
 .op (some 24) (some (21, false)) (.nilchk (.t 23)),
 .op (some 25) (some (21, false)) (.faddr 0 (.t 24)),
 .op (some 26) (some (21, false)) (.load none (.t 25)),
 .op (some 27) (some (21, false)) (.bin .geq (.t 22) (.t 26)),
 .op (some 28) none (.pick (.t 21) (.c (.bool true)) (.t 27)),
 .op (some 18) none (.mov (.t 28))] [])
 (.cond (.t 18)
 (.seq (.items [.op (some 6) none (.mov (.c (.int .i64 61)))] [])
 (.ret))
 (.seq (.items [.op (some 30) none (.mov (.t 2)),
 .op (some 31) none (.lenV (.t 30)),
 .op (some 32) none (.bin .gtr (.t 31) (.c (.int .i64 512))),
 .op (some 29) none (.mov (.t 32))] [])
 (.cond (.t 29)
 (.seq (.items [.op (some 6) none (.mov (.c (.int .i64 62)))] [])
 (.ret))
 (.seq (.items [.op (some 34) none (.mov (.t 8)),
 .op (some 35) none (.un .not (.t 34)),
 .op (some 36) none (.mov (.t 35)),
 .op (some 37) (some (36, true)) (.mov (.t 0)),
 .op (some 38) (some (36, true)) (.nilchk (.t 37)),
 .op (some 39) (some (36, true)) (.faddr 2 (.t 38)),
 .op (some 40) (some (36, true)) (.load none (.t 39)),
 .op (some 41) (some (36, true)) (.lenM (.t 40)),
 .op (some 42) (some (36, true)) (.mov (.t 0)),
 .op (some 43) (some (36, true)) (.nilchk (.t 42)),
 .op (some 44) (some (36, true)) (.faddr 1 (.t 43)),
 .op (some 45) (some (36, true)) (.load none (.t 44)),
 .op (some 46) (some (36, true)) (.bin .geq (.t 41) (.t 45)),
 .op (some 47) none (.pick (.t 36) (.t 46) (.c (.bool false))),
 .op (some 33) none (.mov (.t 47))] [])
 (.cond (.t 33)
 (.seq (.items [.op (some 6) none (.mov (.c (.int .i64 63)))] [])
 (.ret))
 (.skip))))))))
 (.seq (.items [.op (some 48) none (.bslice false (.int .u8 0) 0 []),
 .op (some 49) none (.mov (.t 2)),
 .op (some 50) none (.append 1 false false false (.t 48) (.t 49)),
 .op (some 2) none (.mov (.t 50))] [])
 (.seq (.items [.op (some 51) none (.mov (.t 0)),
 .op (some 52) none (.mov (.t 1)),
 .op (some 53) none (.mov (.t 2)),
 .call (some 54) none (.fn 153) [(.t 52), (.t 53)],
 .op (some 55) none (.mov (.t 2)),
 .op (some 56) none (.lenV (.t 55)),
 .call (some 57) none (.fn 138) [(.t 51), (.t 54), (.t 56)]] [])
 (.seq (.items [.op (some 6) none (.mov (.c (.int .i64 0)))] [])
 (.ret)))))),
 [.tmp 6], 3, false, false⟩
def a128 : Ann := { prom := [], base := [], hps := [], frz := [], keepArgs := false, keepRes := false, ntmps := 58 }

/-- (*lapstone/disk.Disk).Read -/
def i129 : IRFn :=
 ⟨.seq (.items [.op (some 4) none (.mov (.c .nils)),
 .op (some 5) none (.mov (.c (.int .i64 0)))] [])
 (.seq (.items [.op (some 9) none (.mov (.t 0)),
 .op (some 10) none (.nilchk (.t 9)),
 .op (some 11) none (.faddr 2 (.t 10)),
 .op (some 12) none (.load none (.t 11)),
 .op (some 13) none (.mov (.t 1)),
 .op (some 14) none (.lookup 0 .nils true (.t 12) (.t 13)),
 .op (some 8) none (.mov (.t 14)),
 .op (some 15) none (.extract (.t 8) 0),
 .op (some 16) none (.extract (.t 8) 1),
 .op (some 6) none (.mov (.t 15)),
 .op (some 7) none (.mov (.t 16))] [])
 (.seq (.seq (.items [.op (some 17) none (.mov (.t 7)),
 .op (some 18) none (.un .not (.t 17))] [])
 (.cond (.t 18)
 (.seq (.items [.op (some 4) none (.mov (.c .nils)),
 .op (some 5) none (.mov (.c (.int .i64 61)))] [])
 (.ret))
 (.skip)))
 (.seq (.items [.op (some 19) none (.bslice false (.int .u8 0) 0 []),
 .op (some 20) none (.mov (.t 6)),
 .op (some 21) none (.append 1 false false false (.t 19) (.t 20)),
 .op (some 4) none (.mov (.t 21)),
 .op (some 5) none (.mov (.c (.int .i64 0)))] [])
 (.ret)))),
 [.tmp 4, .tmp 5], 2, false, false⟩
def a129 : Ann := { prom := [], base := [], hps := [], frz := [], keepArgs := false, keepRes := false, ntmps := 22 }

/-- lapstone/page.Check -/
def i132 : IRFn :=
 ⟨.seq (.seq (.items [] [1])
 (.items [.op (some 1) none (.lbox (.t 0)),
 .op (some 2) none (.mov (.c (.int .i64 0)))] []))
 (.seq (.seq (.items [.op (some 5) none (.faddr 1 (.l 1)),
 .op (some 6) none (.load none (.s 5 1)),
 .op (some 7) none (.bin .lss (.t 6) (.c (.int .i64 0))),
 .op (some 8) none (.mov (.t 7)),
 .op (some 9) (some (8, false)) (.faddr 1 (.l 1)),
 .op (some 10) (some (8, false)) (.load none (.s 9 1)),
 .op (some 11) (some (8, false)) (.bin .gtr (.t 10) (.c (.int .i64 256))),
 .op (some 12) none (.pick (.t 8) (.c (.bool true)) (.t 11))] [5, 9])
 (.cond (.t 12)
 (.seq (.items [.op (some 2) none (.mov (.c (.int .i64 101)))] [])
 (.ret))
 (.skip)))
 (.seq (.seq (.items [.op (some 13) none (.faddr 2 (.l 1)),
 .op (some 14) none (.load none (.s 13 1)),
 .op (some 15) none (.lenV (.t 14)),
 .op (some 16) none (.mov (.c (.int .i64 0)))] [13])
 (.block 0
 (.loop
 (.seq (.items [.op (some 17) none (.bin .lss (.t 16) (.t 15))] [])
 (.seq (.cond (.t 17)
 (.skip)
 (.exit 0))
 (.seq (.block 1
 (.seq (.seq (.items [] [4])
 (.items [.op (some 18) none (.mov (.t 16)),
 .op (some 19) none (.iaddr 2 (.t 14) (.t 16)),
 .op (some 20) none (.load (some 2) (.t 19)),
 .op (some 4) none (.lalloc (.agg [(.str []), (.str [])])),
 .op (some 3) none (.mov (.t 18)),
 .op none none (.store 2 (.l 4) (.t 20))] []))
 (.block 2
 (.seq (.items [.op (some 22) none (.load (some 2) (.l 4)),
 .call (some 23) none (.fn 146) [(.t 22)],
 .op (some 21) none (.mov (.t 23))] [])
 (.cond (.t 21)
 (.seq (.items [.op (some 2) none (.mov (.c (.int .i64 100)))] [])
 (.ret))
 (.seq (.items [.op (some 25) none (.mov (.t 3)),
 .op (some 26) none (.bin .gtr (.t 25) (.c (.int .i64 0))),
 .op (some 27) none (.mov (.t 26)),
 .op (some 28) (some (27, true)) (.faddr 2 (.l 1)),
 .op (some 29) (some (27, true)) (.load none (.s 28 1)),
 .op (some 30) (some (27, true)) (.mov (.t 3)),
 .op (some 31) (some (27, true)) (.bin .sub (.t 30) (.c (.int .i64 1))),
 .op (some 32) (some (27, true)) (.iaddr 2 (.t 29) (.t 31)),
 .op (some 33) (some (27, true)) (.faddr 0 (.t 32)),
 .op (some 34) (some (27, true)) (.load none (.t 33)),
 .op (some 35) (some (27, true)) (.faddr 0 (.l 4)),
 .op (some 36) (some (27, true)) (.load none (.s 35 4)),
 .op (some 37) (some (27, true)) (.bin .geq (.t 34) (.t 36)),
 .op (some 38) none (.pick (.t 27) (.t 37) (.c (.bool false))),
 .op (some 24) none (.mov (.t 38))] [28, 35])
 (.cond (.t 24)
 (.seq (.items [.op (some 2) none (.mov (.c (.int .i64 101)))] [])
 (.ret))
 (.skip))))))))
 (.items [.op (some 39) none (.bin .add (.t 16) (.c (.int .i64 1))),
 .op (some 16) none (.mov (.t 39))] [])))))))
 (.seq (.seq (.items [.op (some 40) none (.load (some 3) (.l 1)),
 .call (some 41) none (.fn 143) [(.t 40)],
 .op (some 42) none (.bin .gtr (.t 41) (.c (.int .i64 2048)))] [])
 (.cond (.t 42)
 (.seq (.items [.op (some 2) none (.mov (.c (.int .i64 100)))] [])
 (.ret))
 (.skip)))
 (.seq (.items [.op (some 2) none (.mov (.c (.int .i64 0)))] [])
 (.ret))))),
 [.tmp 2], 1, false, false⟩
def a132 : Ann := { prom := [1, 4], base := [(5, 1), (9, 1), (13, 1), (28, 1), (35, 4)], hps := [], frz := [], keepArgs := false, keepRes := false, ntmps := 43 }

/-- (*lapstone/pager.Pager).Read -/
def i133 : IRFn :=
 ⟨.seq (.items [.op (some 4) none (.mov (.c .nils)),
 .op (some 5) none (.mov (.c (.int .i64 0)))] [])
 (.seq (.seq (.items [.op (some 13) none (.mov (.t 0)),
 .op (some 14) none (.mov (.t 1)),
 .call (some 15) none (.fn 101) [(.t 13), (.t 14)],
 .op (some 16) none (.un .not (.t 15))] [])
 (.cond (.t 16)
 (.seq (.items [.op (some 4) none (.mov (.c .nils)),
 .op (some 5) none (.mov (.c (.int .i64 131)))] [])
 (.ret))
 (.skip)))
 (.seq (.seq (.items [.op (some 18) none (.mov (.t 0)),
 .op (some 19) none (.nilchk (.t 18)),
 .op (some 20) none (.faddr 6 (.t 19)),
 .op (some 21) none (.load none (.t 20)),
 .op (some 22) none (.mov (.t 1)),
 .op (some 23) none (.lookup 0 .nils true (.t 21) (.t 22)),
 .op (some 17) none (.mov (.t 23)),
 .op (some 24) none (.extract (.t 17) 0),
 .op (some 25) none (.extract (.t 17) 1),
 .op (some 6) none (.mov (.t 24)),
 .op (some 7) none (.mov (.t 25))] [])
 (.seq (.items [.op (some 26) none (.mov (.t 7))] [])
 (.cond (.t 26)
 (.seq (.items [.op (some 27) none (.bslice false (.int .u8 0) 0 []),
 .op (some 28) none (.mov (.t 6)),
 .op (some 29) none (.append 1 false false false (.t 27) (.t 28)),
 .op (some 4) none (.mov (.t 29)),
 .op (some 5) none (.mov (.c (.int .i64 0)))] [])
 (.ret))
 (.skip))))
 (.seq (.seq (.items [] [8])
 (.items [.op (some 30) none (.mov (.t 0)),
 .op (some 31) none (.nilchk (.t 30)),
 .op (some 32) none (.faddr 5 (.t 31)),
 .op (some 33) none (.load none (.t 32)),
 .op (some 34) none (.mov (.t 1)),
 .op (some 35) none (.lookup 0 (.agg [(.int .i64 0), (.int .i64 0)]) false (.t 33) (.t 34)),
 .op (some 8) none (.lalloc (.agg [(.int .i64 0), (.int .i64 0)])),
 .op none none (.store 2 (.l 8) (.t 35))] []))
 (.seq (.items [.op (some 9) none (.mov (.c .nils))] [])
 (.seq (.seq (.items [.op (some 10) none (.mov (.c (.int .i64 0)))] [])
 (.block 0
 (.loop
 (.seq (.seq (.items [.op (some 36) none (.mov (.t 9)),
 .op (some 37) none (.lenV (.t 36)),
 .op (some 38) none (.faddr 1 (.l 8)),
 .op (some 39) none (.load none (.s 38 8)),
 .op (some 40) none (.bin .lss (.t 37) (.t 39))] [38])
 (.cond (.t 40)
 (.skip)
 (.exit 0)))
 (.seq (.block 1
 (.seq (.items [.op (some 44) none (.mov (.t 0)),
 .op (some 45) none (.nilchk (.t 44)),
 .op (some 46) none (.faddr 0 (.t 45)),
 .op (some 47) none (.load none (.t 46)),
 .op (some 48) none (.mov (.t 0)),
 .op (some 49) none (.faddr 0 (.l 8)),
 .op (some 50) none (.load none (.s 49 8)),
 .op (some 52) none (.mov (.t 10)),
 .call (some 51) none (.fn 154) [(.t 48), (.t 50)],
 .chk 47 none (.load none (.t 46)),
 .op (some 53) none (.bin .add (.t 51) (.t 52)),
 .call (some 54) none (.fn 129) [(.t 47), (.t 53)],
 .op (some 43) none (.mov (.t 54)),
 .op (some 55) none (.extract (.t 43) 0),
 .op (some 56) none (.extract (.t 43) 1),
 .op (some 11) none (.mov (.t 55)),
 .op (some 12) none (.mov (.t 56))] [49])
 (.seq (.seq (.items [.op (some 57) none (.mov (.t 12)),
 .op (some 58) none (.bin .neq (.t 57) (.c (.int .i64 0)))] [])
 (.cond (.t 58)
 (.seq (.items [.op (some 59) none (.mov (.t 12)),
 .op (some 4) none (.mov (.c .nils)),
 .op (some 5) none (.mov (.t 59))] [])
 (.ret))
 (.skip)))
 (.items [.op (some 60) none (.mov (.t 9)),
 .op (some 61) none (.mov (.t 11)),
 .op (some 62) none (.mov (.t 11)),
 .op (some 63) none (.lenV (.t 62)),
 .op (some 64) none (.faddr 1 (.l 8)),
 .op (some 65) none (.load none (.s 64 8)),
 .op (some 66) none (.mov (.t 9)),
 .op (some 67) none (.lenV (.t 66)),
 .op (some 68) none (.bin .sub (.t 65) (.t 67)),
 .op (some 69) none (.minmax false [(.t 63), (.t 68)]),
 .op (some 70) none (.sliceV 1 (.t 61) none (some (.t 69)) none),
 .op (some 71) none (.append 1 false false false (.t 60) (.t 70)),
 .op (some 9) none (.mov (.t 71))] [64]))))
 (.items [.op (some 41) none (.mov (.t 10)),
 .op (some 42) none (.bin .add (.t 41) (.c (.int .i64 1))),
 .op (some 10) none (.mov (.t 42))] []))))))
 (.seq (.items [.op (some 72) none (.mov (.t 9)),
 .op (some 4) none (.mov (.t 72)),
 .op (some 5) none (.mov (.c (.int .i64 0)))] [])
 (.ret))))))),
 [.tmp 4, .tmp 5], 2, false, false⟩
def a133 : Ann := { prom := [8], base := [(38, 8), (49, 8), (64, 8)], hps := [], frz := [], keepArgs := false, keepRes := false, ntmps := 73 }

/-- lapstone/page.Of -/
def i134 : IRFn :=
 ⟨.seq (.seq (.items [] [2])
 (.items [.op (some 2) none (.lalloc (.agg [(.bool false), (.int .i64 0), .nils])),
 .op (some 3) none (.mov (.c (.int .i64 0)))] []))
 (.seq (.items [.op (some 10) none (.mov (.t 0)),
 .call (some 11) none (.fn 135) [(.t 10)],
 .op (some 9) none (.mov (.t 11)),
 .op (some 12) none (.extract (.t 9) 0),
 .op (some 13) none (.extract (.t 9) 1),
 .op (some 4) none (.mov (.t 12)),
 .op (some 5) none (.mov (.t 13))] [])
 (.seq (.seq (.items [.op (some 14) none (.mov (.t 5)),
 .op (some 15) none (.bin .neq (.t 14) (.c (.int .i64 0)))] [])
 (.cond (.t 15)
 (.seq (.items [.op (some 16) none (.build [(.bool false), (.int .i64 0), .nils] []),
 .op none none (.store 3 (.l 2) (.t 16)),
 .op (some 3) none (.mov (.c (.int .i64 101)))] [])
 (.ret))
 (.skip)))
 (.seq (.items [.op (some 17) none (.mov (.t 4)),
 .call (some 18) none (.fn 47) [(.t 17)],
 .op (some 6) none (.mov (.t 18))] [])
 (.seq (.items [.op (some 19) none (.mov (.t 6)),
 .op (some 20) none (.mkfn (.func 74) [(.t 19)] []),
 .op (some 7) none (.mov (.t 20))] [])
 (.seq (.seq (.items [] [8])
 (.items [.op (some 21) none (.mov (.t 6)),
 .call (some 22) none (.fn 75) [(.t 21)],
 .op (some 23) none (.mov (.t 6)),
 .call (some 24) none (.fn 73) [(.t 23), (.c (.int .i64 256))],
 .op (some 25) none (.build [(.bool false), (.int .i64 0), .nils] [(0, 1, (.t 22)), (1, 1, (.t 24))]),
 .op (some 8) none (.lalloc (.agg [(.bool false), (.int .i64 0), .nils])),
 .op none none (.store 3 (.l 8) (.t 25))] []))
 (.seq (.seq (.items [.op (some 26) none (.mov (.t 6)),
 .call (some 27) none (.fn 73) [(.t 26), (.c (.int .i64 2048))],
 .op (some 28) none (.mov (.c (.int .i64 0)))] [])
 (.block 0
 (.loop
 (.seq (.items [.op (some 29) none (.bin .lss (.t 28) (.t 27))] [])
 (.seq (.cond (.t 29)
 (.skip)
 (.exit 0))
 (.seq (.block 1
 (.items [.op (some 30) none (.faddr 2 (.l 8)),
 .op (some 31) none (.load none (.s 30 8)),
 .op (some 32) none (.mov (.t 7)),
 .op (some 34) none (.mov (.t 7)),
 .call (some 33) none (.dyn (.t 32)) [],
 .chk 30 none (.faddr 2 (.l 8)),
 .chk 31 none (.load none (.s 30 8)),
 .call (some 35) none (.dyn (.t 34)) [],
 .chk 30 none (.faddr 2 (.l 8)),
 .chk 31 none (.load none (.s 30 8)),
 .op (some 36) none (.build [(.str []), (.str [])] [(0, 1, (.t 33)), (1, 1, (.t 35))]),
 .op (some 37) none (.bslice false (.agg [(.str []), (.str [])]) 1 [(0, (.t 36))]),
 .op (some 38) none (.append 2 true false false (.t 31) (.t 37)),
 .op (some 39) none (.faddr 2 (.l 8)),
 .op none none (.store 1 (.s 39 8) (.t 38))] [30, 39]))
 (.items [.op (some 40) none (.bin .add (.t 28) (.c (.int .i64 1))),
 .op (some 28) none (.mov (.t 40))] [])))))))
 (.seq (.seq (.items [.op (some 41) none (.mov (.t 6)),
 .call (some 42) none (.fn 49) [(.t 41)],
 .op (some 43) none (.bin .neq (.t 42) (.c (.int .i64 0))),
 .op (some 44) none (.mov (.t 43)),
 .op (some 45) (some (44, false)) (.load (some 3) (.l 8)),
 .call (some 46) (some (44, false)) (.fn 132) [(.t 45)],
 .op (some 47) (some (44, false)) (.bin .neq (.t 46) (.c (.int .i64 0))),
 .op (some 48) none (.pick (.t 44) (.c (.bool true)) (.t 47))] [])
 (.cond (.t 48)
 (.seq (.items [.op (some 49) none (.build [(.bool false), (.int .i64 0), .nils] []),
 .op none none (.store 3 (.l 2) (.t 49)),
 .op (some 3) none (.mov (.c (.int .i64 101)))] [])
 (.ret))
 (.skip)))
 (.seq (.items [.op (some 50) none (.load (some 3) (.l 8)),
 .op none none (.store 3 (.l 2) (.t 50)),
 .op (some 3) none (.mov (.c (.int .i64 0)))] [])
 (.ret))))))))),
 [.loc 2 (some 3), .tmp 3], 1, false, false⟩
def a134 : Ann := { prom := [2, 8], base := [(30, 8), (39, 8)], hps := [], frz := [], keepArgs := false, keepRes := false, ntmps := 51 }

/-- lapstone/sum.Open -/
def i135 : IRFn :=
 ⟨.seq (.items [.op (some 2) none (.mov (.c .nils)),
 .op (some 3) none (.mov (.c (.int .i64 0)))] [])
 (.seq (.seq (.items [.op (some 8) none (.mov (.t 0)),
 .op (some 9) none (.lenV (.t 8)),
 .op (some 10) none (.bin .lss (.t 9) (.c (.int .i64 4)))] [])
 (.cond (.t 10)
 (.seq (.items [.op (some 2) none (.mov (.c .nils)),
 .op (some 3) none (.mov (.c (.int .i64 20)))] [])
 (.ret))
 (.skip)))
 (.seq (.items [.op (some 11) none (.bslice false (.int .u8 0) 0 []),
 .op (some 12) none (.mov (.t 0)),
 .op (some 13) none (.mov (.t 0)),
 .op (some 14) none (.lenV (.t 13)),
 .op (some 15) none (.bin .sub (.t 14) (.c (.int .i64 4))),
 .op (some 16) none (.sliceV 1 (.t 12) none (some (.t 15)) none),
 .op (some 17) none (.append 1 false false false (.t 11) (.t 16)),
 .op (some 4) none (.mov (.t 17))] [])
 (.seq (.items [.op (some 19) none (.mov (.t 0)),
 .op (some 20) none (.mov (.t 0)),
 .op (some 21) none (.lenV (.t 20)),
 .op (some 22) none (.bin .sub (.t 21) (.c (.int .i64 4))),
 .op (some 23) none (.sliceV 1 (.t 19) (some (.t 22)) none none),
 .call (some 24) none (.fn 124) [(.t 23), (.c (.int .i64 4))],
 .op (some 18) none (.mov (.t 24)),
 .op (some 25) none (.extract (.t 18) 0),
 .op (some 26) none (.extract (.t 18) 1),
 .op (some 27) none (.extract (.t 18) 2),
 .op (some 5) none (.mov (.t 25)),
 .op (some 6) none (.mov (.t 26)),
 .op (some 7) none (.mov (.t 27))] [])
 (.seq (.seq (.items [.op (some 28) none (.mov (.t 5)),
 .op (some 29) none (.mov (.t 4)),
 .call (some 30) none (.fn 152) [(.t 29)],
 .op (some 31) none (.cvI .u64 (.t 30)),
 .op (some 32) none (.bin .neq (.t 28) (.t 31))] [])
 (.cond (.t 32)
 (.seq (.items [.op (some 2) none (.mov (.c .nils)),
 .op (some 3) none (.mov (.c (.int .i64 21)))] [])
 (.ret))
 (.skip)))
 (.seq (.items [.op (some 33) none (.mov (.t 4)),
 .op (some 2) none (.mov (.t 33)),
 .op (some 3) none (.mov (.c (.int .i64 0)))] [])
 (.ret)))))),
 [.tmp 2, .tmp 3], 1, false, false⟩
def a135 : Ann := { prom := [], base := [], hps := [], frz := [], keepArgs := false, keepRes := false, ntmps := 34 }

/-- lapstone/record.Scan$1 -/
def i136 : IRFn :=
 ⟨.seq (.seq (.items [] [4])
 (.items [.op (some 4) none (.lbox (.t 0))] []))
 (.items [.op (some 6) none (.load none (.t 2)),
 .op (some 7) none (.load (some 2) (.l 4)),
 .op (some 8) none (.bslice false (.agg [(.int .u64 0), (.str [])]) 1 [(0, (.t 7))]),
 .op (some 10) none (.load none (.t 3)),
 .op (some 11) none (.mov (.t 1)),
 .op (some 12) none (.bin .add (.t 10) (.t 11)),
 .op (some 9) none (.append 2 true false false (.t 6) (.t 8)),
 .chk 10 none (.load none (.t 3)),
 .op none none (.store 1 (.t 2) (.t 9)),
 .chk 10 none (.load none (.t 3)),
 .op none none (.store 1 (.t 3) (.t 12))] []),
 [], 4, false, false⟩
def a136 : Ann := { prom := [4], base := [], hps := [], frz := [], keepArgs := false, keepRes := false, ntmps := 13 }

/-- slices.IndexFunc[[]lapstone/wal.segment,lapstone/wal.segment] -/
def i137 : IRFn :=
 ⟨.seq (.items [.op (some 4) none (.mov (.c (.int .i64 0)))] [])
 (.seq (.seq (.items [.op (some 6) none (.mov (.t 0)),
 .op (some 7) none (.lenV (.t 6)),
 .op (some 8) none (.mov (.c (.int .i64 0)))] [])
 (.block 0
 (.loop
 (.seq (.items [.op (some 9) none (.bin .lss (.t 8) (.t 7))] [])
 (.seq (.cond (.t 9)
 (.skip)
 (.exit 0))
 (.seq (.block 1
 (.seq (.items [.op (some 10) none (.mov (.t 8)),
 .op (some 5) none (.mov (.t 10))] [])
 (.seq (.items [.op (some 11) none (.mov (.t 1)),
 .op (some 12) none (.mov (.t 0)),
 .op (some 13) none (.mov (.t 5)),
 .op (some 14) none (.iaddr 3 (.t 12) (.t 13)),
 .op (some 15) none (.load (some 3) (.t 14)),
 .call (some 16) none (.dyn (.t 11)) [(.t 15)]] [])
 (.cond (.t 16)
 (.seq (.items [.op (some 17) none (.mov (.t 5)),
 .op (some 4) none (.mov (.t 17))] [])
 (.ret))
 (.skip)))))
 (.items [.op (some 18) none (.bin .add (.t 8) (.c (.int .i64 1))),
 .op (some 8) none (.mov (.t 18))] [])))))))
 (.seq (.items [.op (some 4) none (.mov (.c (.int .i64 (-1))))] [])
 (.ret))),
 [.tmp 4], 2, false, false⟩
def a137 : Ann := { prom := [], base := [], hps := [], frz := [], keepArgs := false, keepRes := false, ntmps := 19 }

/-- (*lapstone/disk.Disk).do -/
def i138 : IRFn :=
 ⟨.seq (.items [.op (some 6) none (.mov (.t 0)),
 .op (some 7) none (.mov (.t 0)),
 .op (some 8) none (.nilchk (.t 7)),
 .op (some 9) none (.faddr 4 (.t 8)),
 .op (some 10) none (.load none (.t 9)),
 .op (some 11) none (.mov (.t 1)),
 .op (some 12) none (.bslice false .nilf 1 [(0, (.t 11))]),
 .op (some 13) none (.append 1 false false false (.t 10) (.t 12)),
 .op (some 14) none (.nilchk (.t 6)),
 .op (some 15) none (.faddr 4 (.t 14)),
 .op none none (.store 1 (.t 15) (.t 13))] [])
 (.items [.op (some 16) none (.mov (.t 1)),
 .op (some 17) none (.mov (.t 0)),
 .op (some 18) none (.nilchk (.t 17)),
 .op (some 19) none (.faddr 2 (.t 18)),
 .op (some 20) none (.load none (.t 19)),
 .op (some 21) none (.mov (.t 2)),
 .call (some 22) none (.dyn (.t 16)) [(.t 20), (.t 21)]] []),
 [], 3, false, false⟩
def a138 : Ann := { prom := [], base := [], hps := [], frz := [], keepArgs := false, keepRes := false, ntmps := 23 }

/-- lapstone/page.with -/
def i140 : IRFn :=
 ⟨.seq (.seq (.items [] [2, 4])
 (.items [.op (some 2) none (.lbox (.t 0)),
 .op (some 4) none (.lalloc (.agg [(.bool false), (.int .i64 0), .nils]))] []))
 (.seq (.items [.op (some 5) none (.mov (.t 1)),
 .op (some 6) none (.mov (.t 1)),
 .op (some 7) none (.lenV (.t 6)),
 .op (some 8) none (.mov (.t 1)),
 .op (some 9) none (.lenV (.t 8)),
 .op (some 10) none (.sliceV 2 (.t 5) none (some (.t 7)) (some (.t 9))),
 .op (some 11) none (.faddr 2 (.l 2)),
 .op none none (.store 1 (.s 11 2) (.t 10))] [11])
 (.seq (.items [.op (some 12) none (.load (some 3) (.l 2)),
 .op none none (.store 3 (.l 4) (.t 12))] [])
 (.ret))),
 [.loc 4 (some 3)], 2, false, false⟩
def a140 : Ann := { prom := [2, 4], base := [(11, 2)], hps := [], frz := [], keepArgs := false, keepRes := false, ntmps := 13 }

/-- slices.Clone[[]lapstone/api.Cell,lapstone/api.Cell] -/
def i142 : IRFn :=
 ⟨.seq (.items [.op (some 2) none (.mov (.c .nils))] [])
 (.seq (.seq (.items [.op (some 3) none (.mov (.t 0)),
 .op (some 4) none (.eqN false (.t 3) .nils)] [])
 (.cond (.t 4)
 (.seq (.items [.op (some 2) none (.mov (.c .nils))] [])
 (.ret))
 (.skip)))
 (.seq (.items [.op (some 5) none (.bslice false (.agg [(.str []), (.str [])]) 0 []),
 .op (some 6) none (.mov (.t 0)),
 .op (some 7) none (.append 2 true true false (.t 5) (.t 6)),
 .op (some 2) none (.mov (.t 7))] [])
 (.ret))),
 [.tmp 2], 1, true, true⟩
def a142 : Ann := { prom := [], base := [], hps := [(3, 2)], frz := [], keepArgs := true, keepRes := true, ntmps := 8 }

/-- lapstone/page.Size -/
def i143 : IRFn :=
 ⟨.seq (.seq (.items [] [1])
 (.items [.op (some 1) none (.lbox (.t 0)),
 .op (some 2) none (.mov (.c (.int .i64 0)))] []))
 (.seq (.items [.op (some 3) none (.faddr 1 (.l 1)),
 .op (some 4) none (.load none (.s 3 1)),
 .op (some 5) none (.minmax true [(.t 4), (.c (.int .i64 0))]),
 .op (some 6) none (.cvI .u64 (.t 5)),
 .op (some 9) none (.faddr 2 (.l 1)),
 .op (some 10) none (.load none (.s 9 1)),
 .op (some 11) none (.lenV (.t 10)),
 .op (some 12) none (.cvI .u64 (.t 11)),
 .op (some 15) none (.faddr 2 (.l 1)),
 .op (some 16) none (.load none (.s 15 1)),
 .call (some 7) none (.fn 156) [(.t 6)],
 .chk 9 none (.faddr 2 (.l 1)),
 .chk 10 none (.load none (.s 9 1)),
 .chk 15 none (.faddr 2 (.l 1)),
 .chk 16 none (.load none (.s 15 1)),
 .op (some 8) none (.bin .add (.c (.int .i64 1)) (.t 7)),
 .call (some 13) none (.fn 156) [(.t 12)],
 .chk 15 none (.faddr 2 (.l 1)),
 .chk 16 none (.load none (.s 15 1)),
 .op (some 14) none (.bin .add (.t 8) (.t 13)),
 .call (some 17) none (.fn 157) [(.t 16)],
 .op (some 18) none (.bin .add (.t 14) (.t 17)),
 .op (some 19) none (.bin .add (.t 18) (.c (.int .i64 4))),
 .op (some 2) none (.mov (.t 19))] [3, 9, 15])
 (.ret)),
 [.tmp 2], 1, false, false⟩
def a143 : Ann := { prom := [1], base := [(3, 1), (9, 1), (15, 1)], hps := [], frz := [], keepArgs := false, keepRes := false, ntmps := 20 }

/-- lapstone/page.great -/
def i146 : IRFn :=
 ⟨.seq (.seq (.items [] [1])
 (.items [.op (some 1) none (.lbox (.t 0)),
 .op (some 2) none (.mov (.c (.bool false)))] []))
 (.seq (.items [.op (some 3) none (.faddr 0 (.l 1)),
 .op (some 4) none (.load none (.s 3 1)),
 .op (some 5) none (.lenS (.t 4)),
 .op (some 6) none (.faddr 1 (.l 1)),
 .op (some 7) none (.load none (.s 6 1)),
 .op (some 8) none (.lenS (.t 7)),
 .op (some 9) none (.bin .add (.t 5) (.t 8)),
 .op (some 10) none (.bin .gtr (.t 9) (.c (.int .i64 480))),
 .op (some 2) none (.mov (.t 10))] [3, 6])
 (.ret)),
 [.tmp 2], 1, false, false⟩
def a146 : Ann := { prom := [1], base := [(3, 1), (6, 1)], hps := [], frz := [], keepArgs := false, keepRes := false, ntmps := 11 }

/-- lapstone/sum.Of -/
def i152 : IRFn :=
 ⟨.seq (.items [.op (some 2) none (.mov (.c (.int .u32 0)))] [])
 (.seq (.items [.op (some 3) none (.mov (.t 0)),
 .call (some 4) none (.fn 163) [(.c (.int .u32 0)), (.t 3)],
 .op (some 2) none (.mov (.t 4))] [])
 (.ret)),
 [.tmp 2], 1, false, false⟩
def a152 : Ann := { prom := [], base := [], hps := [], frz := [], keepArgs := false, keepRes := false, ntmps := 5 }

/-- lapstone/disk.writing -/
def i153 : IRFn :=
 ⟨.seq (.items [.op (some 2) none (.hbox (.t 0)),
 .op (some 3) none (.hbox (.t 1)),
 .op (some 4) none (.mov (.c .nilf))] [])
 (.seq (.items [.op (some 5) none (.mkfn (.func 164) [] [(.t 3), (.t 2)]),
 .op (some 4) none (.mov (.t 5))] [])
 (.ret)),
 [.tmp 4], 2, false, false⟩
def a153 : Ann := { prom := [], base := [], hps := [], frz := [], keepArgs := false, keepRes := false, ntmps := 6 }

/-- lapstone/num.Size -/
def i156 : IRFn :=
 ⟨.seq (.items [.op (some 2) none (.mov (.c (.int .i64 0)))] [])
 (.seq (.items [.op (some 3) none (.mov (.c (.int .i64 1)))] [])
 (.seq (.seq (.items [.op (some 4) none (.mov (.t 0)),
 .op (some 5) none (.bin .shr (.t 4) (.c (.int .u64 7))),
 .op (some 0) none (.mov (.t 5))] [])
 (.block 0
 (.loop
 (.seq (.seq (.items [.op (some 6) none (.mov (.t 0)),
 .op (some 7) none (.bin .gtr (.t 6) (.c (.int .u64 0)))] [])
 (.cond (.t 7)
 (.skip)
 (.exit 0)))
 (.seq (.block 1
 (.items [.op (some 10) none (.mov (.t 3)),
 .op (some 11) none (.bin .add (.t 10) (.c (.int .i64 1))),
 .op (some 3) none (.mov (.t 11))] []))
 (.items [.op (some 8) none (.mov (.t 0)),
 .op (some 9) none (.bin .shr (.t 8) (.c (.int .u64 7))),
 .op (some 0) none (.mov (.t 9))] []))))))
 (.seq (.items [.op (some 12) none (.mov (.t 3)),
 .op (some 2) none (.mov (.t 12))] [])
 (.ret)))),
 [.tmp 2], 1, false, false⟩
def a156 : Ann := { prom := [], base := [], hps := [], frz := [], keepArgs := false, keepRes := false, ntmps := 13 }

/-- lapstone/page.bytes -/
def i157 : IRFn :=
 ⟨.seq (.items [.op (some 2) none (.mov (.c (.int .i64 0)))] [])
 (.seq (.items [.op (some 3) none (.mov (.c (.int .i64 0)))] [])
 (.seq (.seq (.items [.op (some 6) none (.mov (.t 0)),
 .op (some 7) none (.lenV (.t 6)),
 .op (some 8) none (.mov (.c (.int .i64 0)))] [])
 (.block 0
 (.loop
 (.seq (.items [.op (some 9) none (.bin .lss (.t 8) (.t 7))] [])
 (.seq (.cond (.t 9)
 (.skip)
 (.exit 0))
 (.seq (.block 1
 (.seq (.seq (.items [] [5])
 (.items [.op (some 10) none (.iaddr 2 (.t 6) (.t 8)),
 .op (some 11) none (.load (some 2) (.t 10)),
 .op (some 5) none (.lalloc (.agg [(.str []), (.str [])])),
 .op none none (.store 2 (.l 5) (.t 11))] []))
 (.items [.op (some 12) none (.mov (.t 3)),
 .op (some 13) none (.faddr 0 (.l 5)),
 .op (some 14) none (.load none (.s 13 5)),
 .op (some 16) none (.faddr 1 (.l 5)),
 .op (some 17) none (.load none (.s 16 5)),
 .call (some 15) none (.fn 165) [(.t 14)],
 .chk 16 none (.faddr 1 (.l 5)),
 .chk 17 none (.load none (.s 16 5)),
 .call (some 18) none (.fn 165) [(.t 17)],
 .op (some 19) none (.bin .add (.t 15) (.t 18)),
 .op (some 20) none (.bin .add (.t 12) (.t 19)),
 .op (some 3) none (.mov (.t 20))] [13, 16])))
 (.items [.op (some 21) none (.bin .add (.t 8) (.c (.int .i64 1))),
 .op (some 8) none (.mov (.t 21))] [])))))))
 (.seq (.items [.op (some 22) none (.mov (.t 3)),
 .op (some 2) none (.mov (.t 22))] [])
 (.ret)))),
 [.tmp 2], 1, false, false⟩
def a157 : Ann := { prom := [5], base := [(13, 5), (16, 5)], hps := [], frz := [], keepArgs := false, keepRes := false, ntmps := 23 }

/-- lapstone/sum.More -/
def i163 : IRFn :=
 ⟨.seq (.items [.op (some 4) none (.mov (.c (.int .u32 0)))] [])
 (.seq (.seq (.items [] [5])
 (.items [.call (some 9) none (.fn 168) [],
 .op (some 5) none (.lalloc (.agg [(.int .u32 0), (.int .u32 0), (.int .u32 0), (.int .u32 0), (.int .u32 0), (.int .u32 0), (.int .u32 0), (.int .u32 0), (.int .u32 0), (.int .u32 0), (.int .u32 0), (.int .u32 0), (.int .u32 0), (.int .u32 0), (.int .u32 0), (.int .u32 0)])),
 .op none none (.store 16 (.l 5) (.t 9))] []))
 (.seq (.items [.op (some 10) none (.mov (.t 0)),
 .op (some 11) none (.un .xor (.t 10)),
 .op (some 6) none (.mov (.t 11))] [])
 (.seq (.seq (.items [.op (some 12) none (.mov (.t 1)),
 .op (some 13) none (.lenV (.t 12)),
 .op (some 14) none (.mov (.c (.int .i64 0)))] [])
 (.block 0
 (.loop
 (.seq (.items [.op (some 15) none (.bin .lss (.t 14) (.t 13))] [])
 (.seq (.cond (.t 15)
 (.skip)
 (.exit 0))
 (.seq (.block 1
 (.seq (.items [.op (some 16) none (.iaddr 1 (.t 12) (.t 14)),
 .op (some 17) none (.load none (.t 16)),
 .op (some 8) none (.mov (.t 17))] [])
 (.seq (.items [.op (some 18) none (.mov (.t 6)),
 .op (some 19) none (.bin .shl (.t 18) (.c (.int .u64 4))),
 .op (some 20) none (.mov (.t 6)),
 .op (some 21) none (.bin .shr (.t 20) (.c (.int .u64 28))),
 .op (some 22) none (.mov (.t 8)),
 .op (some 23) none (.bin .shr (.t 22) (.c (.int .u64 4))),
 .op (some 24) none (.cvI .u32 (.t 23)),
 .op (some 25) none (.bin .xor (.t 21) (.t 24)),
 .op (some 26) none (.iaddrA 16 1 (.l 5) (.t 25)),
 .op (some 27) none (.load none (.s 26 5)),
 .op (some 28) none (.bin .xor (.t 19) (.t 27)),
 .op (some 6) none (.mov (.t 28))] [26])
 (.items [.op (some 29) none (.mov (.t 6)),
 .op (some 30) none (.bin .shl (.t 29) (.c (.int .u64 4))),
 .op (some 31) none (.mov (.t 6)),
 .op (some 32) none (.bin .shr (.t 31) (.c (.int .u64 28))),
 .op (some 33) none (.mov (.t 8)),
 .op (some 34) none (.bin .and (.t 33) (.c (.int .u8 15))),
 .op (some 35) none (.cvI .u32 (.t 34)),
 .op (some 36) none (.bin .xor (.t 32) (.t 35)),
 .op (some 37) none (.iaddrA 16 1 (.l 5) (.t 36)),
 .op (some 38) none (.load none (.s 37 5)),
 .op (some 39) none (.bin .xor (.t 30) (.t 38)),
 .op (some 6) none (.mov (.t 39))] [37]))))
 (.items [.op (some 40) none (.bin .add (.t 14) (.c (.int .i64 1))),
 .op (some 14) none (.mov (.t 40))] [])))))))
 (.seq (.items [.op (some 41) none (.mov (.t 6)),
 .op (some 42) none (.un .xor (.t 41)),
 .op (some 4) none (.mov (.t 42))] [])
 (.ret))))),
 [.tmp 4], 2, false, false⟩
def a163 : Ann := { prom := [5], base := [(26, 5), (37, 5)], hps := [], frz := [], keepArgs := false, keepRes := false, ntmps := 43 }

/-- lapstone/disk.writing$1 -/
def i164 : IRFn :=
 ⟨.seq (.items [.op (some 9) none (.mov (.t 1)),
 .op (some 10) none (.load none (.t 2)),
 .op (some 11) none (.lenV (.t 10)),
 .op (some 12) none (.bin .lss (.t 9) (.t 11)),
 .op (some 6) none (.mov (.t 12))] [])
 (.seq (.items [.op (some 13) none (.mov (.t 1)),
 .op (some 14) none (.minmax true [(.t 13), (.c (.int .i64 0))]),
 .op (some 15) none (.load none (.t 2)),
 .op (some 16) none (.lenV (.t 15)),
 .op (some 17) none (.minmax false [(.t 14), (.t 16)]),
 .op (some 1) none (.mov (.t 17))] [])
 (.seq (.items [.op (some 18) none (.bslice false (.int .u8 0) 0 []),
 .op (some 19) none (.load none (.t 2)),
 .op (some 20) none (.mov (.t 1)),
 .op (some 21) none (.sliceV 1 (.t 19) none (some (.t 20)) none),
 .op (some 22) none (.append 1 false false false (.t 18) (.t 21)),
 .op (some 7) none (.mov (.t 22))] [])
 (.seq (.seq (.items [.op (some 23) none (.mov (.t 0)),
 .op (some 24) none (.load none (.t 3)),
 .op (some 25) none (.lookup 0 .nils false (.t 23) (.t 24)),
 .op (some 8) none (.mov (.t 25))] [])
 (.seq (.items [.op (some 26) none (.mov (.t 6)),
 .op (some 27) none (.mov (.t 26)),
 .op (some 28) (some (27, true)) (.mov (.t 1)),
 .op (some 29) (some (27, true)) (.mov (.t 8)),
 .op (some 30) (some (27, true)) (.lenV (.t 29)),
 .op (some 31) (some (27, true)) (.bin .lss (.t 28) (.t 30)),
 .op (some 32) none (.pick (.t 27) (.t 31) (.c (.bool false)))] [])
 (.cond (.t 32)
 (.items [.op (some 33) none (.mov (.t 7)),
 .op (some 34) none (.mov (.t 8)),
 .op (some 35) none (.mov (.t 1)),
 .op (some 36) none (.sliceV 1 (.t 34) (some (.t 35)) none none),
 .op (some 37) none (.append 1 false false false (.t 33) (.t 36)),
 .op (some 7) none (.mov (.t 37))] [])
 (.skip))))
 (.items [.op (some 38) none (.mov (.t 0)),
 .op (some 39) none (.load none (.t 3)),
 .op (some 40) none (.mov (.t 7)),
 .op none none (.mupd 0 (.t 38) (.t 39) (.t 40))] [])))),
 [], 4, false, false⟩
def a164 : Ann := { prom := [], base := [], hps := [], frz := [], keepArgs := false, keepRes := false, ntmps := 41 }

/-- lapstone/page.text -/
def i165 : IRFn :=
 ⟨.seq (.items [.op (some 2) none (.mov (.c (.int .i64 0)))] [])
 (.seq (.items [.op (some 3) none (.mov (.t 0)),
 .op (some 4) none (.lenS (.t 3)),
 .op (some 5) none (.cvI .u64 (.t 4)),
 .call (some 6) none (.fn 156) [(.t 5)],
 .op (some 7) none (.mov (.t 0)),
 .op (some 8) none (.lenS (.t 7)),
 .op (some 9) none (.bin .add (.t 6) (.t 8)),
 .op (some 2) none (.mov (.t 9))] [])
 (.ret)),
 [.tmp 2], 1, false, false⟩
def a165 : Ann := { prom := [], base := [], hps := [], frz := [], keepArgs := false, keepRes := false, ntmps := 10 }

/-- lapstone/sum.table -/
def i168 : IRFn :=
 ⟨.seq (.seq (.items [] [0])
 (.items [.op (some 0) none (.lalloc (.agg [(.int .u32 0), (.int .u32 0), (.int .u32 0), (.int .u32 0), (.int .u32 0), (.int .u32 0), (.int .u32 0), (.int .u32 0), (.int .u32 0), (.int .u32 0), (.int .u32 0), (.int .u32 0), (.int .u32 0), (.int .u32 0), (.int .u32 0), (.int .u32 0)]))] []))
 (.seq (.items [.op (some 1) none (.halloc [(.int .u32 0), (.int .u32 0), (.int .u32 0), (.int .u32 0), (.int .u32 0), (.int .u32 0), (.int .u32 0), (.int .u32 0), (.int .u32 0), (.int .u32 0), (.int .u32 0), (.int .u32 0), (.int .u32 0), (.int .u32 0), (.int .u32 0), (.int .u32 0)])] [])
 (.seq (.items [.op (some 4) none (.mkfn (.func 171) [] [(.t 1)]),
 .op (some 2) none (.mov (.t 4))] [])
 (.seq (.seq (.items [.op (some 5) none (.mov (.c (.int .i64 0)))] [])
 (.block 0
 (.loop
 (.seq (.items [.op (some 6) none (.bin .lss (.t 5) (.c (.int .i64 16)))] [])
 (.seq (.cond (.t 6)
 (.skip)
 (.exit 0))
 (.seq (.block 1
 (.seq (.items [.op (some 7) none (.mov (.t 5)),
 .op (some 3) none (.mov (.t 7))] [])
 (.items [.op (some 8) none (.mov (.t 2)),
 .op (some 9) none (.mov (.t 3)),
 .call (some 10) none (.dyn (.t 8)) [(.t 9)]] [])))
 (.items [.op (some 11) none (.bin .add (.t 5) (.c (.int .i64 1))),
 .op (some 5) none (.mov (.t 11))] [])))))))
 (.seq (.items [.op (some 12) none (.load (some 16) (.t 1)),
 .op none none (.store 16 (.l 0) (.t 12))] [])
 (.ret))))),
 [.loc 0 (some 16)], 0, false, false⟩
def a168 : Ann := { prom := [0], base := [], hps := [], frz := [], keepArgs := false, keepRes := false, ntmps := 13 }

/-- lapstone/sum.table$1 -/
def i171 : IRFn :=
 ⟨.seq (.items [.op (some 4) none (.mov (.t 0)),
 .op (some 5) none (.cvI .u32 (.t 4)),
 .op (some 6) none (.bin .shl (.t 5) (.c (.int .u64 28))),
 .op (some 3) none (.mov (.t 6))] [])
 (.seq (.seq (.items [.op (some 7) none (.mov (.c (.int .i64 0)))] [])
 (.block 0
 (.loop
 (.seq (.items [.op (some 8) none (.bin .lss (.t 7) (.c (.int .i64 4)))] [])
 (.seq (.cond (.t 8)
 (.skip)
 (.exit 0))
 (.seq (.block 1
 (.items [.op (some 9) none (.mov (.t 3)),
 .call (some 10) none (.fn 172) [(.t 9), (.c (.bool false))],
 .op (some 3) none (.mov (.t 10))] []))
 (.items [.op (some 11) none (.bin .add (.t 7) (.c (.int .i64 1))),
 .op (some 7) none (.mov (.t 11))] [])))))))
 (.items [.op (some 12) none (.mov (.t 0)),
 .op (some 13) none (.mov (.t 3)),
 .op (some 14) none (.iaddrA 16 1 (.t 1) (.t 12)),
 .op none none (.store 1 (.t 14) (.t 13))] [])),
 [], 2, false, false⟩
def a171 : Ann := { prom := [], base := [], hps := [], frz := [], keepArgs := false, keepRes := false, ntmps := 15 }

/-- lapstone/sum.step -/
def i172 : IRFn :=
 ⟨.seq (.items [.op (some 4) none (.mov (.c (.int .u32 0)))] [])
 (.seq (.items [.op (some 6) none (.mov (.t 0)),
 .op (some 7) none (.bin .shr (.t 6) (.c (.int .u64 31))),
 .op (some 8) none (.bin .eql (.t 7) (.c (.int .u32 1))),
 .op (some 5) none (.mov (.t 8))] [])
 (.seq (.items [.op (some 9) none (.mov (.t 0)),
 .op (some 10) none (.bin .shl (.t 9) (.c (.int .u64 1))),
 .op (some 0) none (.mov (.t 10))] [])
 (.seq (.seq (.items [.op (some 11) none (.mov (.t 5)),
 .op (some 12) none (.mov (.t 1)),
 .op (some 13) none (.eqB true (.t 11) (.t 12))] [])
 (.cond (.t 13)
 (.items [.op (some 14) none (.mov (.t 0)),
 .op (some 15) none (.bin .xor (.t 14) (.c (.int .u32 79764919))),
 .op (some 0) none (.mov (.t 15))] [])
 (.skip)))
 (.seq (.items [.op (some 16) none (.mov (.t 0)),
 .op (some 4) none (.mov (.t 16))] [])
 (.ret))))),
 [.tmp 4], 2, false, false⟩
def a172 : Ann := { prom := [], base := [], hps := [], frz := [], keepArgs := false, keepRes := false, ntmps := 17 }

end Go.AM.J
