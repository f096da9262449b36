/-
  Walks: the functions of touch.
-/
import Derived.Test.YtfmhhincdemhdaaGreatH8
import Derived.Test.YtfmhhincdemhdaaGreatRows
import Derived.WalkKit
import Derived.ProofKit
import Derived.Deep.Strs
import Derived.ChangeArms
import Derived.DataReads
set_option linter.unusedSimpArgs false
set_option linter.unusedVariables false
namespace Go.DS
open Go Go.Proofs
set_option maxRecDepth 100000
set_option linter.unusedVariables false
set_option linter.unusedSimpArgs false
@[go_sem] theorem ok106 : calleeOK Tryz.prog 106 = true := by kernel_rfl
@[go_sem] theorem ex106 : (cfg.ext 106).isSome = true := rfl
def cd90 : Cd := .seq (R [c0 4 (.tk (.c (kn 2)))] [0, 1]) (.seq (R [c0 5 (.tk (.c (kn 2)))] [0, 1, 5]) (.seq (.seq (R [c0 8 (.mv (.s 1)), c0 9 (.len 1 (.s 8)), c0 10 (.mv (.c (ki .i64 0)))] [0, 5, 8, 9, 10]) (.block 0 (LP [0, 5, 8, 9, 10] (.seq (R [c0 11 (.bin .lss .any (.s 10) (.s 9))] [0, 5, 8, 9, 10, 11]) (.seq (.ite (.s 11) (.skip) (.exit 0)) (.seq (.block 1 (.seq (R [c0 12 (.ixp 1 (.s 8) (.s 10)), c0 13 (.ld false 1 (.s 12)), c0 7 (.tk (.s 13))] [0, 5, 7, 8, 9, 10]) (R [c0 14 (.tk (.s 5)), c0 15 (.mv (.s 0)), c0 16 (.mv (.s 7)), c0 17 (.bld [ks [], ki .u8 0] [(0, 1, (.s 15)), (1, 1, (.s 16))]), c0 18 (.bsl 2 [(.s 17)]), c0 19 (.app 2 27 false (.s 14) (.s 18)), c0 5 (.tk (.s 19))] [0, 5, 8, 9, 10]))) (R [c0 20 (.bin .add .any (.s 10) (.c (ki .i64 1))), c0 10 (.mv (.s 20))] [0, 5, 8, 9, 10]))))))) (.seq (R [c0 21 (.tk (.s 5)), c0 4 (.tk (.s 21))] [4]) (.ret))))
theorem fun90 : Fun Tryz.prog cfg 90 22 cd90 [.s 4] := ⟨rfl, Tryz.f90, _, Tryz.func90, rfl, rfl, by kernel_rfl, by kernel_rfl⟩
@[go_sem] theorem ok90 : calleeOK Tryz.prog 90 = true := by kernel_rfl
@[go_sem] theorem ex90 : (cfg.ext 90).isSome = false := rfl
def cd92 : Cd := .seq (R [c0 2 (.tk (.c (kn 2)))] [0]) (.seq (R [c0 3 (.tk (.c (ki .i64 0)))] [0, 3]) (.seq (.seq (R [c0 9 (.mv (.s 0)), c0 10 (.len 1 (.s 9)), c0 11 (.mv (.c (ki .i64 0)))] [0, 3, 9, 10, 11]) (.block 0 (LP [0, 3, 9, 10, 11] (.seq (R [c0 12 (.bin .lss .any (.s 11) (.s 10))] [0, 3, 9, 10, 11, 12]) (.seq (.ite (.s 12) (.skip) (.exit 0)) (.seq (.block 1 (.seq (R [c0 13 (.ixp 1 (.s 9) (.s 11)), c0 14 (.ldx true false 4 (.s 13)), c0 5 (.tk (.s 14))] [0, 3, 5, 9, 10, 11]) (.seq (R [c0 15 (.mv (.s 3)), c0 16 (.mv (.s 5)), c0 17 (.len 1 (.s 16)), c0 18 (.bin .add .any (.s 15) (.s 17)), c0 3 (.tk (.s 18))] [0, 3, 9, 10, 11]) (.seq (R [c0 19 (.mv (.s 3)), cb 20 (.bin .lss .any (.s 19) (.c (ki .i64 0)))] [0, 3, 9, 10, 11, 20]) (.ite (.s 20) (R [c0 21 (.mki 9 (.c (ks [108, 101, 110, 32, 111, 117, 116, 32, 111, 102, 32, 114, 97, 110, 103, 101]))), cn (.bad)] [0, 3, 9, 10, 11]) (.skip)))))) (R [c0 22 (.bin .add .any (.s 11) (.c (ki .i64 1))), c0 11 (.mv (.s 22))] [0, 3, 9, 10, 11]))))))) (.seq (R [c0 23 (.mv (.s 3)), c0 24 (.call (some true) (.c (kf 106)) [(.c (.sc (.slice none 0 0))), (.s 23)]), c0 6 (.tk (.s 24))] [0, 6]) (.seq (.seq (R [c0 25 (.mv (.s 0)), c0 26 (.len 1 (.s 25)), c0 27 (.mv (.c (ki .i64 0)))] [6, 25, 26, 27]) (.block 2 (LP [6, 25, 26, 27] (.seq (R [c0 28 (.bin .lss .any (.s 27) (.s 26))] [6, 25, 26, 27, 28]) (.seq (.ite (.s 28) (.skip) (.exit 2)) (.seq (.block 3 (.seq (R [c0 29 (.ixp 1 (.s 25) (.s 27)), c0 30 (.ldx true false 4 (.s 29)), c0 8 (.tk (.s 30))] [6, 8, 25, 26, 27]) (R [c0 31 (.tk (.s 6)), c0 32 (.mv (.s 8)), c0 33 (.app 2 27 false (.s 31) (.s 32)), c0 6 (.tk (.s 33))] [6, 25, 26, 27]))) (R [c0 34 (.bin .add .any (.s 27) (.c (ki .i64 1))), c0 27 (.mv (.s 34))] [6, 25, 26, 27]))))))) (.seq (R [c0 35 (.tk (.s 6)), c0 2 (.tk (.s 35))] [2]) (.ret))))))
theorem fun92 : Fun Tryz.prog cfg 92 36 cd92 [.s 2] := ⟨rfl, Tryz.f92, _, Tryz.func92, rfl, rfl, by kernel_rfl, by kernel_rfl⟩
@[go_sem] theorem ok92 : calleeOK Tryz.prog 92 = true := by kernel_rfl
@[go_sem] theorem ex92 : (cfg.ext 92).isSome = false := rfl
def cd93 : Cd := .seq (R [cb 4 (.tk (.c (kb false)))] [0, 1]) (.seq (R [c0 5 (.mv (.s 0)), c0 6 (.mv (.s 1)), c0 7 (.call none (.c (kf 107)) [(.s 5), (.s 6)]), cb 8 (.bin .geq .any (.s 7) (.c (ki .i64 0))), cb 4 (.tk (.s 8))] [4]) (.ret))
theorem fun93 : Fun Tryz.prog cfg 93 9 cd93 [.s 4] := ⟨rfl, Tryz.f93, _, Tryz.func93, rfl, rfl, by kernel_rfl, by kernel_rfl⟩
@[go_sem] theorem ok93 : calleeOK Tryz.prog 93 = true := by kernel_rfl
@[go_sem] theorem ex93 : (cfg.ext 93).isSome = false := rfl
def cd107 : Cd := .seq (R [c0 4 (.tk (.c (ki .i64 0)))] [0, 1]) (.seq (.seq (R [c0 6 (.mv (.s 0)), c0 7 (.len 1 (.s 6)), c0 8 (.mv (.c (ki .i64 0)))] [0, 1, 7, 8]) (.block 0 (LP [0, 1, 7, 8] (.seq (R [c0 9 (.bin .lss .any (.s 8) (.s 7))] [0, 1, 7, 8, 9]) (.seq (.ite (.s 9) (.skip) (.exit 0)) (.seq (.block 1 (.seq (R [c0 10 (.mv (.s 8)), c0 5 (.tk (.s 10))] [0, 1, 5, 7, 8]) (.seq (R [c0 11 (.mv (.s 1)), c0 12 (.mv (.s 0)), c0 13 (.mv (.s 5)), c0 14 (.ixp 2 (.s 12) (.s 13)), c0 15 (.ld true 2 (.s 14)), cb 16 (.call none (.s 11) [(.s 15)])] [0, 1, 5, 7, 8, 16]) (.ite (.s 16) (.seq (R [c0 17 (.mv (.s 5)), c0 4 (.tk (.s 17))] [4]) (.ret)) (.skip))))) (R [c0 18 (.bin .add .any (.s 8) (.c (ki .i64 1))), c0 8 (.mv (.s 18))] [0, 1, 7, 8]))))))) (.seq (R [c0 4 (.tk (.c (ki .i64 (-1))))] [4]) (.ret)))
theorem fun107 : Fun Tryz.prog cfg 107 19 cd107 [.s 4] := ⟨rfl, Tryz.f107, _, Tryz.func107, rfl, rfl, by kernel_rfl, by kernel_rfl⟩
@[go_sem] theorem ok107 : calleeOK Tryz.prog 107 = true := by kernel_rfl
@[go_sem] theorem ex107 : (cfg.ext 107).isSome = false := rfl
def cd94 : Cd := .seq (R [c0 2 (.new false (.s 0)), cb 3 (.tk (.c (kb false)))] [1, 2]) (.seq (R [c0 4 (.ld false 1 (.s 1)), c0 5 (.ld true 2 (.s 2)), cb 6 (.lkp [2, 0] true 2 (kb false) false (.s 4) (.s 5)), cb 3 (.tk (.s 6))] [2, 3]) (.ret))
theorem fun94 : Fun Tryz.prog cfg 94 7 cd94 [.s 3] := ⟨rfl, Tryz.f94, _, Tryz.func94, rfl, rfl, by kernel_rfl, by kernel_rfl⟩
@[go_sem] theorem ok94 : calleeOK Tryz.prog 94 = true := by kernel_rfl
@[go_sem] theorem ex94 : (cfg.ext 94).isSome = false := rfl
def cd78 : Cd := .seq (R [c0 2 (.new false (.s 0)), c0 3 (.new false (.s 1)), cb 4 (.tk (.c (kb false)))] [2, 3, 5, 7]) (.seq (R [c0 8 (.mkm), c0 5 (.new false (.c (.sc (.map none)))), cn (.st 1 (.s 5) (.s 8))] [2, 3, 5, 7]) (.seq (.seq (R [c0 9 (.mov 0 (.s 3)), c0 10 (.ld false 4 (.s 9)), c0 11 (.mov 1 (.s 3)), c0 12 (.ld false 4 (.s 11)), c0 13 (.bsl 1 [(.s 10), (.s 12)]), c0 14 (.call none (.c (kf 92)) [(.s 13)]), c0 15 (.len 1 (.s 14)), c0 16 (.mv (.c (ki .i64 0)))] [2, 3, 5, 7, 14, 15, 16]) (.block 0 (LP [2, 3, 5, 7, 14, 15, 16] (.seq (R [c0 17 (.bin .lss .any (.s 16) (.s 15))] [2, 3, 5, 7, 14, 15, 16, 17]) (.seq (.ite (.s 17) (.skip) (.exit 0)) (.seq (.block 1 (.seq (R [c0 18 (.ixp 2 (.s 14) (.s 16)), c0 19 (.ld true 2 (.s 18)), c0 7 (.new false (.c (.agg [ks [], ki .u8 0]))), cn (.st 2 (.s 7) (.s 19))] [2, 3, 5, 7, 14, 15, 16]) (R [c0 20 (.ld false 1 (.s 5)), c0 21 (.ld true 2 (.s 7)), cn (.mup [2, 0] true 2 (.s 20) (.s 21) (.c (kb true)))] [2, 3, 5, 7, 14, 15, 16]))) (R [c0 22 (.bin .add .any (.s 16) (.c (ki .i64 1))), c0 16 (.mv (.s 22))] [2, 3, 5, 7, 14, 15, 16]))))))) (.seq (R [c0 23 (.mov 1 (.s 2)), c0 24 (.ld false 4 (.s 23)), c0 25 (.mkf (.func 94) 0 [(.s 5)]), cb 26 (.call none (.c (kf 93)) [(.s 24), (.s 25)]), cb 4 (.tk (.s 26))] [2, 3, 4, 5, 7]) (.ret))))
theorem fun78 : Fun Tryz.prog cfg 78 27 cd78 [.s 4] := ⟨rfl, Tryz.f78, _, Tryz.func78, rfl, rfl, by kernel_rfl, by kernel_rfl⟩
@[go_sem] theorem ok78 : calleeOK Tryz.prog 78 = true := by kernel_rfl
@[go_sem] theorem ex78 : (cfg.ext 78).isSome = false := rfl
def cd77 : Cd := .seq (R [c0 1 (.new false (.s 0)), c0 2 (.new false (.c (.agg [kn 2, kn 2])))] [1, 2]) (.seq (R [c0 6 (.mov 3 (.s 1)), c0 7 (.ld false 1 (.s 6)), c0 3 (.tk (.s 7))] [1, 2, 3]) (.seq (.seq (R [c0 8 (.mv (.s 3)), cb 9 (.call none (.c (kf 89)) [(.s 8)]), cb 10 (.un .not (.s 9))] [1, 2, 3, 10]) (.ite (.s 10) (.seq (R [c0 11 (.bld [kz 2, kz 2] []), cn (.st 2 (.s 2) (.s 11))] [1, 2]) (.ret)) (.skip))) (.seq (.seq (R [c0 12 (.mov 2 (.s 1)), c0 13 (.ld false 1 (.s 12))] [1, 2, 3, 13]) (.block 0 (.seq (R [cb 15 (.bin .eql .any (.s 13) (.c (ki .i64 4))), cb 14 (.tk (.s 15))] [1, 2, 3, 13, 14]) (.ite (.s 14) (.seq (R [c0 16 (.mv (.s 3)), c0 17 (.bsl 1 [(.c (ki .u8 101)), (.c (ki .u8 118))]), c0 18 (.call none (.c (kf 90)) [(.s 16), (.s 17)]), c0 19 (.bld [kz 2, kz 2] [(0, 1, (.s 18))]), cn (.st 2 (.s 2) (.s 19))] [1, 2]) (.ret)) (.seq (R [cb 21 (.bin .eql .any (.s 13) (.c (ki .i64 5))), cb 20 (.tk (.s 21))] [1, 2, 3, 20]) (.ite (.s 20) (.seq (R [c0 22 (.mv (.s 3)), c0 23 (.bsl 1 [(.c (ki .u8 101)), (.c (ki .u8 107))]), c0 24 (.call none (.c (kf 90)) [(.s 22), (.s 23)]), c0 25 (.bld [kz 2, kz 2] [(0, 1, (.s 24))]), cn (.st 2 (.s 2) (.s 25))] [1, 2]) (.ret)) (.skip))))))) (.seq (R [c0 26 (.mv (.s 3)), c0 27 (.call none (.c (kf 91)) [(.s 26)]), c0 4 (.tk (.s 27))] [1, 2, 3, 4]) (.seq (R [c0 28 (.mv (.s 4)), cb 29 (.bin .eql .any (.s 28) (.c (ks []))), cb 5 (.tk (.s 29))] [1, 2, 3, 4, 5]) (.seq (.block 1 (.seq (R [c0 31 (.mov 2 (.s 1)), c0 32 (.ld false 1 (.s 31)), cb 33 (.bin .eql .any (.s 32) (.c (ki .i64 1))), cb 34 (.mv (.s 33)), ch 35 34 true (.mv (.s 5)), cb 36 (.pick (.s 34) (.s 35) (.c (kb false))), cb 30 (.tk (.s 36))] [1, 2, 3, 4, 5, 30]) (.ite (.s 30) (.seq (R [c0 37 (.mv (.s 3)), c0 38 (.bsl 1 [(.c (ki .u8 101))]), c0 39 (.call none (.c (kf 90)) [(.s 37), (.s 38)]), c0 40 (.bld [kz 2, kz 2] [(0, 1, (.s 39))]), cn (.st 2 (.s 2) (.s 40))] [1, 2]) (.ret)) (.seq (R [cb 42 (.mv (.s 5)), cb 41 (.tk (.s 42))] [1, 2, 3, 4, 41]) (.ite (.s 41) (.skip) (.seq (R [c0 44 (.mov 2 (.s 1)), c0 45 (.ld false 1 (.s 44)), cb 46 (.bin .eql .any (.s 45) (.c (ki .i64 1))), cb 43 (.tk (.s 46))] [1, 2, 3, 4, 43]) (.ite (.s 43) (.seq (R [c0 47 (.mv (.s 4)), c0 48 (.bsl 1 [(.c (ki .u8 101))]), c0 49 (.call none (.c (kf 90)) [(.s 47), (.s 48)]), c0 50 (.mv (.s 3)), c0 51 (.bsl 1 [(.c (ki .u8 101))]), c0 52 (.call none (.c (kf 90)) [(.s 50), (.s 51)]), c0 53 (.app 2 27 false (.s 49) (.s 52)), c0 54 (.mv (.s 3)), c0 55 (.bsl 1 [(.c (ki .u8 101)), (.c (ki .u8 118))]), c0 56 (.call none (.c (kf 90)) [(.s 54), (.s 55)]), c0 57 (.mv (.s 4)), c0 58 (.bsl 1 [(.c (ki .u8 107))]), c0 59 (.call none (.c (kf 90)) [(.s 57), (.s 58)]), c0 60 (.app 2 27 false (.s 56) (.s 59)), c0 61 (.bld [kz 2, kz 2] [(0, 1, (.s 53)), (1, 1, (.s 60))]), cn (.st 2 (.s 2) (.s 61))] [1, 2]) (.ret)) (.seq (R [c0 63 (.mov 2 (.s 1)), c0 64 (.ld false 1 (.s 63)), cb 65 (.bin .eql .any (.s 64) (.c (ki .i64 2))), cb 62 (.tk (.s 65))] [1, 2, 3, 4, 62]) (.ite (.s 62) (.seq (R [c0 66 (.mv (.s 3)), c0 67 (.bsl 1 [(.c (ki .u8 101)), (.c (ki .u8 107))]), c0 68 (.call none (.c (kf 90)) [(.s 66), (.s 67)]), c0 69 (.mv (.s 3)), c0 70 (.bsl 1 [(.c (ki .u8 101)), (.c (ki .u8 118))]), c0 71 (.call none (.c (kf 90)) [(.s 69), (.s 70)]), c0 72 (.mv (.s 4)), c0 73 (.bsl 1 [(.c (ki .u8 107))]), c0 74 (.call none (.c (kf 90)) [(.s 72), (.s 73)]), c0 75 (.app 2 27 false (.s 71) (.s 74)), c0 76 (.bld [kz 2, kz 2] [(0, 1, (.s 68)), (1, 1, (.s 75))]), cn (.st 2 (.s 2) (.s 76))] [1, 2]) (.ret)) (.seq (R [c0 78 (.mov 2 (.s 1)), c0 79 (.ld false 1 (.s 78)), cb 80 (.bin .eql .any (.s 79) (.c (ki .i64 3))), cb 77 (.tk (.s 80))] [1, 2, 3, 77]) (.ite (.s 77) (.seq (R [c0 81 (.mv (.s 3)), c0 82 (.bsl 1 [(.c (ki .u8 101))]), c0 83 (.call none (.c (kf 90)) [(.s 81), (.s 82)]), c0 84 (.mv (.s 3)), c0 85 (.bsl 1 [(.c (ki .u8 118))]), c0 86 (.call none (.c (kf 90)) [(.s 84), (.s 85)]), c0 87 (.bld [kz 2, kz 2] [(0, 1, (.s 83)), (1, 1, (.s 86))]), cn (.st 2 (.s 2) (.s 87))] [1, 2]) (.ret)) (.seq (R [c0 89 (.mov 2 (.s 1)), c0 90 (.ld false 1 (.s 89)), cb 91 (.bin .eql .any (.s 90) (.c (ki .i64 6))), cb 88 (.tk (.s 91))] [1, 2, 3, 88]) (.ite (.s 88) (.seq (R [c0 92 (.mv (.s 3)), c0 93 (.bsl 1 [(.c (ki .u8 101)), (.c (ki .u8 118))]), c0 94 (.call none (.c (kf 90)) [(.s 92), (.s 93)]), c0 95 (.mv (.s 3)), c0 96 (.bsl 1 [(.c (ki .u8 118))]), c0 97 (.call none (.c (kf 90)) [(.s 95), (.s 96)]), c0 98 (.bld [kz 2, kz 2] [(0, 1, (.s 94)), (1, 1, (.s 97))]), cn (.st 2 (.s 2) (.s 98))] [1, 2]) (.ret)) (.skip)))))))))))))) (.seq (R [c0 99 (.bld [kz 2, kz 2] []), cn (.st 2 (.s 2) (.s 99))] [1, 2]) (.ret))))))))
theorem fun77 : Fun Tryz.prog cfg 77 100 cd77 [.b 2 true 2] := ⟨rfl, Tryz.f77, _, Tryz.func77, rfl, rfl, by kernel_rfl, by kernel_rfl⟩
@[go_sem] theorem ok77 : calleeOK Tryz.prog 77 = true := by kernel_rfl
@[go_sem] theorem ex77 : (cfg.ext 77).isSome = false := rfl
def cd56 : Cd := .seq (R [c0 2 (.new false (.s 0)), c0 3 (.new false (.s 1)), cb 4 (.tk (.c (kb false)))] [2, 3, 5, 6]) (.seq (RD [cd (some 7) false none (.ld true 8 (.s 2)) false false [2], cd (some 8) false none (.call none (.c (kf 77)) [(.s 7)]) false false [7], cd (some 9) false none (.ld true 8 (.s 3)) false false [3], cd (some 10) false none (.call none (.c (kf 77)) [(.s 9)]) false false [9], cd (some 5) false none (.new false (.c (.agg [kn 2, kn 2]))) true false [], cd (some 6) false none (.new false (.c (.agg [kn 2, kn 2]))) true false [], cd none false none (.st 2 (.s 5) (.s 8)) false false [5, 8], cd none false none (.st 2 (.s 6) (.s 10)) false false [6, 10]] [2, 3, 5, 6] []) (.seq (R [c0 11 (.ld true 2 (.s 5)), c0 12 (.ld true 2 (.s 6)), cb 13 (.call none (.c (kf 78)) [(.s 11), (.s 12)]), cb 14 (.mv (.s 13)), cg 15 14 false (.ld true 2 (.s 6)), cg 16 14 false (.ld true 2 (.s 5)), ch 17 14 false (.call none (.c (kf 78)) [(.s 15), (.s 16)]), cb 18 (.pick (.s 14) (.c (kb true)) (.s 17)), cb 4 (.tk (.s 18))] [2, 3, 4, 5, 6]) (.ret)))
theorem fun56 : Fun Tryz.prog cfg 56 19 cd56 [.s 4] := ⟨rfl, Tryz.f56, _, Tryz.func56, rfl, rfl, by kernel_rfl, by kernel_rfl⟩
@[go_sem] theorem ok56 : calleeOK Tryz.prog 56 = true := by kernel_rfl
@[go_sem] theorem ex56 : (cfg.ext 56).isSome = false := rfl
def cd55 : Cd := .seq (R [c0 1 (.new false (.s 0)), cb 2 (.tk (.c (kb false)))] [1]) (.seq (R [c0 3 (.mov 2 (.s 1)), c0 4 (.ld false 1 (.s 3)), cb 5 (.bin .leq .any (.c (ki .i64 7)) (.s 4)), cb 6 (.mv (.s 5)), cg 7 6 true (.mov 2 (.s 1)), cg 8 6 true (.ld false 1 (.s 7)), ch 9 6 true (.bin .leq .any (.s 8) (.c (ki .i64 9))), cb 10 (.pick (.s 6) (.s 9) (.c (kb false))), cb 2 (.tk (.s 10))] [1, 2]) (.ret))
theorem fun55 : Fun Tryz.prog cfg 55 11 cd55 [.s 2] := ⟨rfl, Tryz.f55, _, Tryz.func55, rfl, rfl, by kernel_rfl, by kernel_rfl⟩
@[go_sem] theorem ok55 : calleeOK Tryz.prog 55 = true := by kernel_rfl
@[go_sem] theorem ex55 : (cfg.ext 55).isSome = false := rfl
def cd30 : Cd := .seq (R [c0 2 (.new false (.s 0)), c0 3 (.new false (.s 1)), cb 4 (.tk (.c (kb false)))] [2, 3]) (.seq (.block 0 (.seq (R [c0 6 (.mov 2 (.s 2)), c0 7 (.ld false 1 (.s 6)), cb 8 (.bin .eql .any (.s 7) (.c (ki .i64 0))), cb 9 (.mv (.s 8)), cg 10 9 false (.mov 2 (.s 3)), cg 11 9 false (.ld false 1 (.s 10)), ch 12 9 false (.bin .eql .any (.s 11) (.c (ki .i64 0))), cb 13 (.pick (.s 9) (.c (kb true)) (.s 12)), cb 5 (.tk (.s 13))] [2, 3, 5]) (.ite (.s 5) (.seq (R [cb 4 (.tk (.c (kb false)))] [2, 3, 4]) (.ret)) (.seq (R [c0 15 (.ld true 8 (.s 2)), cb 16 (.call none (.c (kf 55)) [(.s 15)]), cb 17 (.mv (.s 16)), cg 18 17 false (.ld true 8 (.s 3)), ch 19 17 false (.call none (.c (kf 55)) [(.s 18)]), cb 20 (.pick (.s 17) (.c (kb true)) (.s 19)), cb 21 (.mv (.s 20)), cg 22 21 false (.mov 0 (.s 2)), cg 23 21 false (.ld false 1 (.s 22)), cg 24 21 false (.mov 0 (.s 3)), cg 25 21 false (.ld false 1 (.s 24)), ch 26 21 false (.bin .eql .any (.s 23) (.s 25)), cb 27 (.pick (.s 21) (.c (kb true)) (.s 26)), cb 14 (.tk (.s 27))] [2, 3, 14]) (.ite (.s 14) (.seq (R [cb 4 (.tk (.c (kb true)))] [2, 3, 4]) (.ret)) (.skip)))))) (.seq (R [c0 28 (.ld true 8 (.s 2)), c0 29 (.ld true 8 (.s 3)), cb 30 (.call none (.c (kf 56)) [(.s 28), (.s 29)]), cb 4 (.tk (.s 30))] [2, 3, 4]) (.ret)))
theorem fun30 : Fun Tryz.prog cfg 30 31 cd30 [.s 4] := ⟨rfl, Tryz.f30, _, Tryz.func30, rfl, rfl, by kernel_rfl, by kernel_rfl⟩
@[go_sem] theorem ok30 : calleeOK Tryz.prog 30 = true := by kernel_rfl
@[go_sem] theorem ex30 : (cfg.ext 30).isSome = false := rfl
variable {h : DHeap}
theorem tof_lim (own : Bool) (p : Str) (l : List UInt8) (hl : l.length ≤ 100) : lim Tryz.prog cfg 90 [vs p, .list own 1 (bys l)] h = some (.list true 2 (cls (ofP p l)), h) := by
  refine lim_funp fun90 rfl (by simp) (by simp [heapFree, free_bys]) (by simp [heapFree, free_cls]) ?_
  delta cd90
  simp -implicitDefEqProofs -dsimp only [go_sem]
  refine wp_for (σ := Nat) (fun k => [(0, vs p), (5, .list true 2 (cls (ofP p (l.take k)))), (8, .list false 1 (bys l)), (9, vi (l.length : Nat)), (10, vi (k : Nat))]) (fun _ => []) (fun k => l.length - k) (fun k => k ≤ l.length) 0 (by simp) rfl rfl ?_
  rintro k hk N hN
  have hlen : (ofP p (l.take k)).length = k := by simp [ofP]; omega
  by_cases hlt : k < l.length
  · have h1 : ((k : Int) < (l.length : Int)) := by omega
    have hm : (k + 1) * 27 ≤ maxLenD := by unfold maxLenD; omega
    simp -implicitDefEqProofs -dsimp only [go_sem, h1, hlen, hm]
    refine ⟨hlt, hN (k + 1) _ (by omega) (by omega) ?_⟩
    have e : cls (ofP p (l.take k)) ++ [[vs p, DV.sc (Value.int .u8 l[k].toNat)]] = cls (ofP p (l.take (k + 1))) := by
      rw [List.take_succ_eq_append_getElem hlt]; simp only [cls, ofP, List.map_append, List.map_cons, List.map_nil]
    simp -implicitDefEqProofs -dsimp only [go_sem, wrap_succ (show k < 9223372036854775807 by omega), e]
  · have h1 : ¬ ((k : Int) < (l.length : Int)) := by omega
    have : k = l.length := by omega
    subst this
    simp -implicitDefEqProofs -dsimp only [go_sem, h1, List.take_length]

/-- What lies in rows of rows. -/
def clss (ls : List (List Cel)) : List (List DV) := ls.map fun l => [.list false 2 (cls l)]
@[go_sem] theorem clss_len (l : List (List Cel)) : (clss l).length = l.length := by simp [clss]
@[go_sem high] theorem idxP_clss (l : List (List Cel)) (i : Int) (N : List DV → Prop) : IdxP (clss l) i N = IdxP l i fun c => N [.list false 2 (cls c)] := idxP_map
theorem free_clss : ∀ l : List (List Cel), heapFree.alls (clss l) = true
  | [] => rfl
  | s :: l => by
    have := free_clss l
    simp only [clss] at this
    simp only [clss, List.map_cons, heapFree.alls, heapFree.all, heapFree, this, free_cls, Bool.and_self]
theorem grow_lim (n : Nat) (hn : n ≤ 1048576) : lim Tryz.prog cfg 106 [.sc (.slice none 0 0), vi (n : Nat)] h = some (.list true 2 (cls []), h) := by
  refine lim_ext rfl ?_ rfl
  show (if (0 : Int) ≤ n ∧ (n : Int) ≤ 1048576 then some (DV.list true 2 [], h) else none) = _
  rw [if_pos (by omega)]; rfl
theorem flat_le {ls : List (List Cel)} {l : List Cel} (h : l ∈ ls) : l.length ≤ ls.flatten.length := by
  induction ls with
  | nil => cases h
  | cons a ls ih =>
    simp only [List.flatten_cons, List.length_append]
    rcases List.mem_cons.1 h with rfl | h
    · omega
    · have := ih h; omega
theorem flat_take (ls : List (List Cel)) (k : Nat) (hk : k < ls.length) : (ls.take (k + 1)).flatten = (ls.take k).flatten ++ ls[k] := by
  rw [List.take_succ_eq_append_getElem hk, List.flatten_append, List.flatten_cons, List.flatten_nil, List.append_nil]
theorem flat_take_le (ls : List (List Cel)) (k : Nat) : (ls.take k).flatten.length ≤ ls.flatten.length := by
  conv => rhs; rw [← List.take_append_drop k ls]
  rw [List.flatten_append, List.length_append]
  omega
theorem concat_lim (own : Bool) (ls : List (List Cel)) (hl : ls.length ≤ 1000) (hs : ls.flatten.length ≤ 1000000) : lim Tryz.prog cfg 92 [.list own 1 (clss ls)] h = some (.list true 2 (cls ls.flatten), h) := by
  refine lim_funp fun92 rfl (by simp) (by simp [heapFree, free_clss]) (by simp [heapFree, free_cls]) ?_
  delta cd92
  simp -implicitDefEqProofs -dsimp only [go_sem]
  refine wp_for (σ := Nat) (fun k => [(0, .list false 1 (clss ls)), (3, vi ((ls.take k).flatten.length : Nat)), (9, .list false 1 (clss ls)), (10, vi (ls.length : Nat)), (11, vi (k : Nat))]) (fun _ => []) (fun k => ls.length - k) (fun k => k ≤ ls.length) 0 (by simp) rfl rfl ?_
  rintro k hk N hN
  by_cases hlt : k < ls.length
  · have h1 : ((k : Int) < (ls.length : Int)) := by omega
    have h3 := flat_take ls k hlt
    have h4 := flat_take_le ls (k + 1)
    have h2 : IntKind.wrap .i64 (((ls.take k).flatten.length : Int) + (ls[k].length : Int)) = ((ls.take (k + 1)).flatten.length : Int) := by
      rw [h3] at h4 ⊢
      simp only [List.length_append] at h4 ⊢
      rw [wrap64 (by omega) (by omega)]; omega
    have h5 : ¬ (((ls.take (k + 1)).flatten.length : Int) < 0) := by omega
    simp -implicitDefEqProofs -dsimp only [go_sem, h1, hlt, h2, h5]
    refine hN (k + 1) _ (by omega) (by omega) ?_
    simp -implicitDefEqProofs -dsimp only [go_sem, wrap_succ (show k < 9223372036854775807 by omega)]
  · have h1 : ¬ ((k : Int) < (ls.length : Int)) := by omega
    have : k = ls.length := by omega
    subst this
    have hg := grow_lim (h := []) ls.flatten.length (by omega)
    simp -implicitDefEqProofs -dsimp only [go_sem, h1, List.take_length, hg]
    refine wp_for (σ := Nat) (fun k => [(6, .list true 2 (cls (ls.take k).flatten)), (25, .list false 1 (clss ls)), (26, vi (ls.length : Nat)), (27, vi (k : Nat))]) (fun _ => []) (fun k => ls.length - k) (fun k => k ≤ ls.length) 0 (by simp) rfl rfl ?_
    rintro k hk N hN
    by_cases hlt : k < ls.length
    · have h1 : ((k : Int) < (ls.length : Int)) := by omega
      have h3 := flat_take ls k hlt
      have h4 := flat_take_le ls (k + 1)
      have hm : ((ls.take k).flatten.length + ls[k].length) * 27 ≤ maxLenD := by
        rw [h3] at h4
        simp only [List.length_append] at h4
        unfold maxLenD; omega
      simp -implicitDefEqProofs -dsimp only [go_sem, h1, hlt, hm]
      refine hN (k + 1) _ (by omega) (by omega) ?_
      simp -implicitDefEqProofs -dsimp only [go_sem, wrap_succ (show k < 9223372036854775807 by omega), ← h3]
    · have h1 : ¬ ((k : Int) < (ls.length : Int)) := by omega
      have : k = ls.length := by omega
      subst this
      simp -implicitDefEqProofs -dsimp only [go_sem, h1, List.take_length]

/-- The closure that looks into the set. -/
theorem spoils1_lim (i : Nat) (m : List Cel) (hi : h[i]? = some (.map (mcs m))) (c : Cel) : lim Tryz.prog cfg 94 [.agg [vs c.1, .sc (.int .u8 c.2.toNat)], .eptr [.mp i]] h = some (vb (decide (c ∈ m)), h) := by
  refine lim_fun fun94 rfl (by simp) rfl ?_
  delta cd94
  have hm : ∀ N : List (DV × DV) → Prop, MapP h i N = N (mcs m) := fun N => by simp only [MapP, hi]
  by_cases hc : c ∈ m <;> simp -implicitDefEqProofs -dsimp only [go_sem, hm, find_mcs, hc]
def idxI : Option Nat → Int
  | some n => n
  | none => -1
theorem idxI_some (n : Nat) : idxI (some n) = n := rfl
theorem idxI_none : idxI none = -1 := rfl
theorem tindexFunc_lim (own : Bool) (l : List Cel) (hl : l.length ≤ 1000000) (i : Nat) (m : List Cel) (hi : h[i]? = some (.map (mcs m))) :
    ∃ r : Int, (decide (0 ≤ r) = l.any fun c => decide (c ∈ m)) ∧ lim Tryz.prog cfg 107 [.list own 2 (cls l), .fn (.func 94) [] [.eptr [.mp i]]] h = some (vi r, h) := by
  refine ⟨idxI (l.findIdx? fun c => decide (c ∈ m)), ?_, ?_⟩
  · cases hf : l.findIdx? (fun c => decide (c ∈ m)) with
    | none =>
      have := List.findIdx?_eq_none_iff.1 hf
      rw [idxI_none]
      rw [Bool.eq_iff_iff]
      simp only [decide_eq_true_eq, List.any_eq_true]
      constructor
      · intro h1; omega
      · rintro ⟨c, hc, h1⟩; have := this c hc; simp at this h1; exact (this h1).elim
    | some n =>
      obtain ⟨hn, h1, h2⟩ := List.findIdx?_eq_some_iff_getElem.1 hf
      rw [idxI_some]
      rw [Bool.eq_iff_iff]
      simp only [decide_eq_true_eq, List.any_eq_true]
      exact ⟨fun _ => ⟨l[n], List.getElem_mem _, by simpa using h1⟩, fun _ => by omega⟩
  refine lim_fun fun107 rfl (by simp) rfl ?_
  delta cd107
  simp -implicitDefEqProofs -dsimp only [go_sem]
  refine wp_for (σ := Nat) (fun k => [(0, .list false 2 (cls l)), (1, .fn (.func 94) [] [.eptr [.mp i]]), (7, vi (l.length : Nat)), (8, vi (k : Nat))]) (fun _ => h) (fun k => l.length - k) (fun k => k ≤ l.length ∧ ∀ j (hj : j < l.length), j < k → l[j] ∉ m) 0 (by simp) rfl rfl ?_
  rintro k ⟨hk, hj⟩ N hN
  by_cases hlt : k < l.length
  · have h1 : ((k : Int) < (l.length : Int)) := by omega
    have hx := spoils1_lim i m hi l[k]
    by_cases hc : l[k] ∈ m
    · have e : l.findIdx? (fun c => decide (c ∈ m)) = some k := List.findIdx?_eq_some_iff_getElem.2 ⟨hlt, by simpa using hc, fun j hjk => by simpa using hj j (by omega) hjk⟩
      simp -implicitDefEqProofs -dsimp only [go_sem, h1, hlt, hx, hc, e, idxI_some]
    · simp -implicitDefEqProofs -dsimp only [go_sem, h1, hlt, hx, hc]
      refine hN (k + 1) _ (by omega) ⟨by omega, fun j hj1 hj2 => ?_⟩ ?_
      · by_cases e : j = k
        · subst e; exact hc
        · exact hj j hj1 (by omega)
      · simp -implicitDefEqProofs -dsimp only [go_sem, wrap_succ (show k < 9223372036854775807 by omega)]
  · have h1 : ¬ ((k : Int) < (l.length : Int)) := by omega
    have : k = l.length := by omega
    subst this
    have e : l.findIdx? (fun c => decide (c ∈ m)) = none := List.findIdx?_eq_none_iff.2 fun c hc => by
      obtain ⟨j, hj1, rfl⟩ := List.getElem_of_mem hc
      simpa using hj j hj1 hj1
    simp -implicitDefEqProofs -dsimp only [go_sem, h1, e, idxI_none]
theorem tcontainsFunc_lim (own : Bool) (l : List Cel) (hl : l.length ≤ 1000000) (i : Nat) (m : List Cel) (hi : h[i]? = some (.map (mcs m))) :
    lim Tryz.prog cfg 93 [.list own 2 (cls l), .fn (.func 94) [] [.eptr [.mp i]]] h = some (vb (l.any fun c => decide (c ∈ m)), h) := by
  refine lim_fun fun93 rfl (by simp) rfl ?_
  delta cd93
  obtain ⟨r, hr, hx⟩ := tindexFunc_lim (h := h) false l hl i m hi
  rw [← hr]
  simp -implicitDefEqProofs -dsimp only [go_sem, hx]
  by_cases h0 : 0 ≤ r <;> simp [h0]
abbrev useD (r w : List Cel) : DV := .agg [.list false 2 (cls r), .list false 2 (cls w)]
theorem spoils_lim (r w r' w' : List Cel) (h1 : r.length ≤ 1000) (h2 : w.length ≤ 1000) (h3 : r'.length ≤ 1000) (h4 : w'.length ≤ 1000) :
    lim Tryz.prog cfg 78 [useD r w, useD r' w'] h = some (vb (spoilsP w r' w'), h) := by
  refine lim_funp fun78 rfl (by simp) (by simp [heapFree, heapFree.all, free_cls]) rfl ?_
  delta cd78
  have hc := concat_lim (h := [.map []]) false [r', w'] (by simp) (by simp; omega)
  have hcl : clss [r', w'] = [[.list false 2 (cls r')], [.list false 2 (cls w')]] := rfl
  have hfl : [r', w'].flatten = r' ++ w' := by simp
  rw [hcl, hfl] at hc
  have hu : (r' ++ w').length ≤ 2000 := by simp; omega
  unfold spoilsP
  generalize r' ++ w' = u at hc hu ⊢
  simp -implicitDefEqProofs -dsimp only [go_sem, hc]
  refine wp_for (σ := Nat × DV) (fun x => [(2, .box [.list false 2 (cls r), .list false 2 (cls w)]), (3, .box [.list false 2 (cls r'), .list false 2 (cls w')]), (5, .box [.mp 0]), (7, x.2), (14, .list true 2 (cls u)), (15, vi (u.length : Nat)), (16, vi (x.1 : Nat))]) (fun x => [.map (mcs (insAll (u.take x.1)))]) (fun x => u.length - x.1) (fun x => x.1 ≤ u.length) (0, .junk) (by simp) rfl rfl ?_
  rintro ⟨k, x⟩ hk N hN
  dsimp only at hk
  by_cases hlt : k < u.length
  · have h1 : ((k : Int) < (u.length : Int)) := by omega
    have hs : insC u[k] (insAll (u.take k)) = insAll (u.take (k + 1)) := by rw [List.take_succ_eq_append_getElem hlt, insAll_snoc]
    have hm : ∀ N : List (DV × DV) → Prop, MapP [.map (mcs (insAll (u.take k)))] 0 N = N (mcs (insAll (u.take k))) := fun N => rfl
    simp -implicitDefEqProofs -dsimp only [go_sem, h1, hlt, hm, set_mcs, hs, List.set_cons_zero]
    refine hN (k + 1, .box [vs u[k].1, .sc (.int .u8 u[k].2.toNat)]) _ (by dsimp only; omega) (by dsimp only; omega) ?_
    simp -implicitDefEqProofs -dsimp only [go_sem, wrap_succ (show k < 9223372036854775807 by omega)]
  · have h1 : ¬ ((k : Int) < (u.length : Int)) := by omega
    have : k = u.length := by omega
    subst this
    have hx := tcontainsFunc_lim (h := [.map (mcs (insAll (u.take u.length)))]) false w (by omega) 0 _ rfl
    simp only [List.take_length, mem_insAll] at hx
    generalize (w.any fun c => decide (c ∈ u)) = z at hx ⊢
    cases z <;> simp -implicitDefEqProofs -dsimp only [go_sem, h1, hx, List.take_length]
theorem uses_lim (c : Cmd) (hp : c.path.length ≤ 1099511627776) : lim Tryz.prog cfg 77 [cmdD c] h = some (useD (usesP c).1 (usesP c).2, h) := by
  refine lim_funp fun77 rfl (by simp) rfl (by simp [heapFree, heapFree.all, free_cls]) ?_
  delta cd77
  have v := valid_lim (h := []) c.path hp
  have u := parent_lim (h := []) c.path hp
  have t1 := tof_lim (h := []) false c.path [101] (by simp)
  have t2 := tof_lim (h := []) false c.path [118] (by simp)
  have t3 := tof_lim (h := []) false c.path [101, 118] (by simp)
  have t4 := tof_lim (h := []) false c.path [101, 107] (by simp)
  have t5 := tof_lim (h := []) false (parentP c.path) [101] (by simp)
  have t6 := tof_lim (h := []) false (parentP c.path) [107] (by simp)
  have m1 : (1 + 1) * 27 ≤ maxLenD := by decide
  have m2 : (2 + 1) * 27 ≤ maxLenD := by decide
  simp only [bys, List.map_cons, List.map_nil, UInt8.toNat_ofNat, Nat.reducePow, Nat.reduceMod, Int.cast_ofNat_Int] at t1 t2 t3 t4 t5 t6
  unfold usesP
  cases h1 : parse c.path with
  | none =>
    rw [h1] at v
    simp -implicitDefEqProofs -dsimp only [go_sem, v]
    simp [cls]
  | some l =>
    rw [h1] at v
    by_cases o4 : c.op = 4
    · simp -implicitDefEqProofs -dsimp only [go_sem, v, o4, t3]
      simp [cls]
    by_cases o5 : c.op = 5
    · simp -implicitDefEqProofs -dsimp only [go_sem, v, o4, o5, t4]
      simp [cls]
    by_cases r : parentP c.path = []
    · by_cases o1 : c.op = 1
      · simp -implicitDefEqProofs -dsimp only [go_sem, v, u, r, o1, t1]
        simp [cls]
      · simp -implicitDefEqProofs -dsimp only [go_sem, v, u, r, o4, o5, o1]
        simp [cls]
    by_cases o1 : c.op = 1
    · simp -implicitDefEqProofs -dsimp only [go_sem, v, u, r, o1, t1, t3, t5, t6]
      simp [ofP, maxLenD]
    by_cases o2 : c.op = 2
    · simp -implicitDefEqProofs -dsimp only [go_sem, v, u, r, o2, t1, t3, t4, t5, t6]
      simp [ofP, maxLenD]
    by_cases o3 : c.op = 3
    · simp -implicitDefEqProofs -dsimp only [go_sem, v, u, r, o3, t1, t2]
    by_cases o6 : c.op = 6
    · simp -implicitDefEqProofs -dsimp only [go_sem, v, u, r, o6, t2, t3]
    · simp -implicitDefEqProofs -dsimp only [go_sem, v, u, r, o4, o5, o1, o2, o3, o6]
      simp [cls]
theorem paths_lim (a b : Cmd) (ha : a.path.length ≤ 1099511627776) (hb : b.path.length ≤ 1099511627776) : lim Tryz.prog cfg 56 [cmdD a, cmdD b] h = some (vb (pathsB a b), h) := by
  refine lim_funp fun56 rfl (by simp) rfl rfl ?_
  delta cd56
  have v := uses_lim (h := []) a ha
  have w := uses_lim (h := []) b hb
  have la := uses_le a
  have lb := uses_le b
  have x := spoils_lim (h := []) (usesP a).1 (usesP a).2 (usesP b).1 (usesP b).2 (by omega) (by omega) (by omega) (by omega)
  have y := spoils_lim (h := []) (usesP b).1 (usesP b).2 (usesP a).1 (usesP a).2 (by omega) (by omega) (by omega) (by omega)
  unfold pathsB
  generalize spoilsP (usesP a).2 (usesP b).1 (usesP b).2 = p at x ⊢
  generalize spoilsP (usesP b).2 (usesP a).1 (usesP a).2 = q at y ⊢
  cases p <;> cases q <;> simp -implicitDefEqProofs -dsimp only [go_sem, v, w, x, y]
theorem control_lim (c : Cmd) : lim Tryz.prog cfg 55 [cmdD c] h = some (vb (controlB c), h) := by
  refine lim_funp fun55 rfl (by simp) rfl rfl ?_
  delta cd55
  unfold controlB
  by_cases o1 : 7 ≤ c.op <;> by_cases o2 : c.op ≤ 9 <;> simp -implicitDefEqProofs -dsimp only [go_sem, o1, o2]
set_option maxHeartbeats 2000000 in
theorem both_lim (a b : Cmd) (ha : a.path.length ≤ 1099511627776) (hb : b.path.length ≤ 1099511627776) : lim Tryz.prog cfg 30 [cmdD a, cmdD b] h = some (vb (bothB a b), h) := by
  refine lim_funp fun30 rfl (by simp) rfl rfl ?_
  delta cd30
  have v := control_lim (h := []) a
  have w := control_lim (h := []) b
  have x := paths_lim (h := []) a b ha hb
  unfold bothB
  by_cases o1 : a.op = 0
  · simp -implicitDefEqProofs -dsimp only [go_sem, o1]
    simp
  by_cases o2 : b.op = 0
  · simp -implicitDefEqProofs -dsimp only [go_sem, o1, o2]
    simp
  generalize controlB a = p at v ⊢
  generalize controlB b = q at w ⊢
  generalize pathsB a b = z at x ⊢
  cases p <;> cases q <;> simp -implicitDefEqProofs -dsimp only [go_sem, o1, o2, v, w, x] <;> by_cases o3 : a.client = b.client <;> cases z <;> simp [o3]
end Go.DS

/-
  Walks: sets of instances.
-/
namespace Go.DS
open Go Go.Proofs
set_option maxRecDepth 100000
set_option linter.unusedVariables false
set_option linter.unusedSimpArgs false
@[go_sem] theorem ok86 : calleeOK Tryz.prog 86 = true := by kernel_rfl
@[go_sem] theorem ex86 : (cfg.ext 86).isSome = true := rfl
def cd57 : Cd := .seq (R [c0 2 (.new false (.s 0)), c0 3 (.new false (.s 1)), cb 4 (.tk (.c (kb false)))] [2, 3]) (.seq (R [c0 5 (.ld true 3 (.s 2)), c0 6 (.ld true 3 (.s 3)), c0 7 (.call none (.c (kf 79)) [(.s 5), (.s 6)]), cb 8 (.bin .lss .any (.s 7) (.c (ki .i64 0))), cb 4 (.tk (.s 8))] [2, 3, 4]) (.ret))
theorem fun57 : Fun Tryz.prog cfg 57 9 cd57 [.s 4] := ⟨rfl, Tryz.f57, _, Tryz.func57, rfl, rfl, by kernel_rfl, by kernel_rfl⟩
@[go_sem] theorem ok57 : calleeOK Tryz.prog 57 = true := by kernel_rfl
@[go_sem] theorem ex57 : (cfg.ext 57).isSome = false := rfl
def cd63 : Cd := .seq (R [cb 4 (.tk (.c (kb false)))] [0, 1]) (.seq (R [c0 5 (.mv (.s 0)), cb 6 (.bin .leq .any (.c (ki .i64 0)) (.s 5)), cb 7 (.mv (.s 6)), cg 8 7 true (.mv (.s 0)), cg 9 7 true (.mv (.s 1)), ch 10 7 true (.bin .leq .any (.s 8) (.s 9)), cb 11 (.pick (.s 7) (.s 10) (.c (kb false))), cb 4 (.tk (.s 11))] [4]) (.ret))
theorem fun63 : Fun Tryz.prog cfg 63 12 cd63 [.s 4] := ⟨rfl, Tryz.f63, _, Tryz.func63, rfl, rfl, by kernel_rfl, by kernel_rfl⟩
@[go_sem] theorem ok63 : calleeOK Tryz.prog 63 = true := by kernel_rfl
@[go_sem] theorem ex63 : (cfg.ext 63).isSome = false := rfl
def cd40 : Cd := .seq (R [c0 1 (.new false (.s 0)), cb 2 (.tk (.c (kb false)))] [1]) (.seq (R [c0 3 (.tk (.c (kf 63)))] [1, 3]) (.seq (R [c0 4 (.mv (.s 3)), c0 5 (.mov 0 (.s 1)), c0 6 (.ld false 1 (.s 5)), cb 7 (.call none (.s 4) [(.s 6), (.c (ki .i64 1048576))]), cb 8 (.mv (.s 7)), cg 9 8 true (.mv (.s 3)), cg 10 8 true (.mov 1 (.s 1)), cg 11 8 true (.ld false 1 (.s 10)), ch 12 8 true (.call none (.s 9) [(.s 11), (.c (ki .i64 31))]), cb 13 (.pick (.s 8) (.s 12) (.c (kb false))), cb 14 (.mv (.s 13)), cg 15 14 true (.mv (.s 3)), cg 16 14 true (.mov 2 (.s 1)), cg 17 14 true (.ld false 1 (.s 16)), ch 18 14 true (.call none (.s 15) [(.s 17), (.c (ki .i64 1099511627776))]), cb 19 (.pick (.s 14) (.s 18) (.c (kb false))), cb 2 (.tk (.s 19))] [1, 2]) (.ret)))
theorem fun40 : Fun Tryz.prog cfg 40 20 cd40 [.s 2] := ⟨rfl, Tryz.f40, _, Tryz.func40, rfl, rfl, by kernel_rfl, by kernel_rfl⟩
@[go_sem] theorem ok40 : calleeOK Tryz.prog 40 = true := by kernel_rfl
@[go_sem] theorem ex40 : (cfg.ext 40).isSome = false := rfl
def cd71 : Cd := .seq (R [c0 2 (.tk (.c (.sc (.map none))))] [0, 7]) (.seq (R [c0 8 (.mkm), c0 3 (.tk (.s 8))] [0, 3, 7]) (.seq (.seq (R [c0 9 (.mv (.s 0)), c0 10 (.len 1 (.s 9)), c0 11 (.mv (.c (ki .i64 0)))] [3, 7, 9, 10, 11]) (.block 0 (LP [3, 7, 9, 10, 11] (.seq (R [c0 12 (.bin .lss .any (.s 11) (.s 10))] [3, 7, 9, 10, 11, 12]) (.seq (.ite (.s 12) (.skip) (.exit 0)) (.seq (.block 1 (.seq (R [c0 13 (.ixp 1 (.s 9) (.s 11)), c0 14 (.ldx true false 5 (.s 13)), c0 5 (.tk (.s 14))] [3, 5, 7, 9, 10, 11]) (.seq (R [c0 15 (.mv (.s 5)), c0 16 (.len 1 (.s 15)), c0 17 (.mv (.c (ki .i64 0)))] [3, 7, 9, 10, 11, 15, 16, 17]) (.block 2 (LP [3, 7, 9, 10, 11, 15, 16, 17] (.seq (R [c0 18 (.bin .lss .any (.s 17) (.s 16))] [3, 7, 9, 10, 11, 15, 16, 17, 18]) (.seq (.ite (.s 18) (.skip) (.exit 2)) (.seq (.block 3 (.seq (R [c0 19 (.ixp 3 (.s 15) (.s 17)), c0 20 (.ld true 3 (.s 19)), c0 7 (.new false (.c (.agg [ki .i64 0, ki .i64 0, ki .i64 0]))), cn (.st 3 (.s 7) (.s 20))] [3, 7, 9, 10, 11, 15, 16, 17]) (R [c0 21 (.mv (.s 3)), c0 22 (.ld true 3 (.s 7)), cn (.mup [0, 0, 0] true 3 (.s 21) (.s 22) (.c (kb true)))] [3, 7, 9, 10, 11, 15, 16, 17]))) (R [c0 23 (.bin .add .any (.s 17) (.c (ki .i64 1))), c0 17 (.mv (.s 23))] [3, 7, 9, 10, 11, 15, 16, 17]))))))))) (R [c0 24 (.bin .add .any (.s 11) (.c (ki .i64 1))), c0 11 (.mv (.s 24))] [3, 7, 9, 10, 11]))))))) (.seq (R [c0 25 (.mv (.s 3)), c0 2 (.tk (.s 25))] [2, 7]) (.ret))))
theorem fun71 : Fun Tryz.prog cfg 71 26 cd71 [.s 2] := ⟨rfl, Tryz.f71, _, Tryz.func71, rfl, rfl, by kernel_rfl, by kernel_rfl⟩
@[go_sem] theorem ok71 : calleeOK Tryz.prog 71 = true := by kernel_rfl
@[go_sem] theorem ex71 : (cfg.ext 71).isSome = false := rfl
def cd87 : Cd := .seq (R [c0 1 (.new true (.s 0)), c0 2 (.tk (.c (.sc .nilFunc)))] [1]) (.seq (R [c0 3 (.mkf (.func 102) 0 [(.s 1)]), c0 2 (.tk (.s 3))] [1, 2]) (.ret))
theorem fun87 : Fun Tryz.prog cfg 87 4 cd87 [.s 2] := ⟨rfl, Tryz.f87, _, Tryz.func87, rfl, rfl, by kernel_rfl, by kernel_rfl⟩
@[go_sem] theorem ok87 : calleeOK Tryz.prog 87 = true := by kernel_rfl
@[go_sem] theorem ex87 : (cfg.ext 87).isSome = false := rfl
def cd72 : Cd := .seq (R [c0 2 (.tk (.c (kn 3)))] [0]) (.seq (R [c0 3 (.mv (.s 0)), c0 4 (.call none (.c (kf 87)) [(.s 3)]), c0 5 (.call none (.c (kf 86)) [(.s 4), (.c (kf 79))]), c0 2 (.tk (.s 5))] [2]) (.ret))
theorem fun72 : Fun Tryz.prog cfg 72 6 cd72 [.s 2] := ⟨rfl, Tryz.f72, _, Tryz.func72, rfl, rfl, by kernel_rfl, by kernel_rfl⟩
@[go_sem] theorem ok72 : calleeOK Tryz.prog 72 = true := by kernel_rfl
@[go_sem] theorem ex72 : (cfg.ext 72).isSome = false := rfl
def cd50 : Cd := .seq (R [c0 2 (.tk (.c (kn 3)))] [0]) (.seq (R [c0 3 (.mv (.s 0)), c0 4 (.bsl 1 [(.s 3)]), c0 5 (.call none (.c (kf 71)) [(.s 4)]), c0 6 (.call none (.c (kf 72)) [(.s 5)]), c0 2 (.tk (.s 6))] [2]) (.ret))
theorem fun50 : Fun Tryz.prog cfg 50 7 cd50 [.s 2] := ⟨rfl, Tryz.f50, _, Tryz.func50, rfl, rfl, by kernel_rfl, by kernel_rfl⟩
@[go_sem] theorem ok50 : calleeOK Tryz.prog 50 = true := by kernel_rfl
@[go_sem] theorem ex50 : (cfg.ext 50).isSome = false := rfl
def cd98 : Cd := .seq (R [c0 4 (.tk (.c (kn 3)))] [0, 1]) (.seq (R [c0 5 (.mv (.s 0)), c0 6 (.mv (.s 1)), c0 7 (.bsl 1 [(.s 5), (.s 6)]), c0 8 (.call none (.c (kf 71)) [(.s 7)]), c0 9 (.call none (.c (kf 72)) [(.s 8)]), c0 4 (.tk (.s 9))] [4]) (.ret))
theorem fun98 : Fun Tryz.prog cfg 98 10 cd98 [.s 4] := ⟨rfl, Tryz.f98, _, Tryz.func98, rfl, rfl, by kernel_rfl, by kernel_rfl⟩
@[go_sem] theorem ok98 : calleeOK Tryz.prog 98 = true := by kernel_rfl
@[go_sem] theorem ex98 : (cfg.ext 98).isSome = false := rfl
def cd31 : Cd := .seq (R [cb 2 (.tk (.c (kb false)))] [0]) (.seq (.seq (R [c0 4 (.mv (.s 0)), c0 5 (.len 1 (.s 4)), c0 6 (.bin .sub .any (.s 5) (.c (ki .i64 1))), c0 7 (.mm true (.s 6) (.c (ki .i64 0))), c0 8 (.mv (.c (ki .i64 0)))] [0, 7, 8]) (.block 0 (LP [0, 7, 8] (.seq (R [cb 9 (.bin .lss .any (.s 8) (.s 7))] [0, 7, 8, 9]) (.seq (.ite (.s 9) (.skip) (.exit 0)) (.seq (.block 1 (.seq (R [c0 10 (.mv (.s 8)), c0 3 (.tk (.s 10))] [0, 3, 7, 8]) (.seq (RD [cd (some 11) false none (.mv (.s 0)) false false [0], cd (some 12) false none (.mv (.s 3)) false false [3], cd (some 13) false none (.ixp 3 (.s 11) (.s 12)) false false [11, 12], cd (some 14) false none (.ld true 3 (.s 13)) false false [13], cd (some 15) false none (.mv (.s 0)) false false [0], cd (some 16) false none (.mv (.s 3)) false false [3], cd (some 17) false none (.bin .add .any (.s 16) (.c (ki .i64 1))) false false [16], cd (some 18) false none (.ixp 3 (.s 15) (.s 17)) false false [15, 17], cd (some 19) false none (.ld true 3 (.s 18)) false false [18], cd (some 20) true none (.call none (.c (kf 57)) [(.s 14), (.s 19)]) false false [14, 19], cd (some 21) true none (.un .not (.s 20)) false false [20]] [0, 7, 8, 21] []) (.ite (.s 21) (.seq (R [cb 2 (.tk (.c (kb false)))] [2]) (.ret)) (.skip))))) (R [c0 22 (.bin .add .any (.s 8) (.c (ki .i64 1))), c0 8 (.mv (.s 22))] [0, 7, 8]))))))) (.seq (R [cb 2 (.tk (.c (kb true)))] [2]) (.ret)))
theorem fun31 : Fun Tryz.prog cfg 31 23 cd31 [.s 2] := ⟨rfl, Tryz.f31, _, Tryz.func31, rfl, rfl, by kernel_rfl, by kernel_rfl⟩
@[go_sem] theorem ok31 : calleeOK Tryz.prog 31 = true := by kernel_rfl
@[go_sem] theorem ex31 : (cfg.ext 31).isSome = false := rfl
def cd76 : Cd := .seq (R [c0 3 (.new false (.s 1)), c0 4 (.tk (.c (ki .i64 0)))] [0, 3]) (.seq (.seq (R [c0 6 (.mv (.s 0)), c0 7 (.len 1 (.s 6)), c0 8 (.mv (.c (ki .i64 0)))] [0, 3, 7, 8]) (.block 0 (LP [0, 3, 7, 8] (.seq (R [c0 9 (.bin .lss .any (.s 8) (.s 7))] [0, 3, 7, 8, 9]) (.seq (.ite (.s 9) (.skip) (.exit 0)) (.seq (.block 1 (.seq (R [c0 10 (.mv (.s 8)), c0 5 (.tk (.s 10))] [0, 3, 5, 7, 8]) (.seq (RD [cd (some 11) false none (.ld true 3 (.s 3)) false false [3], cd (some 12) false none (.mv (.s 0)) false false [0], cd (some 13) false none (.mv (.s 5)) false false [5], cd (some 14) false none (.ixp 3 (.s 12) (.s 13)) false false [12, 13], cd (some 15) false none (.ld true 3 (.s 14)) false false [14], cd (some 16) true none (.bin .eql (.flat [0, 0, 0]) (.s 11) (.s 15)) false false [11, 15]] [0, 3, 5, 7, 8, 16] []) (.ite (.s 16) (.seq (R [c0 17 (.mv (.s 5)), c0 4 (.tk (.s 17))] [3, 4]) (.ret)) (.skip))))) (R [c0 18 (.bin .add .any (.s 8) (.c (ki .i64 1))), c0 8 (.mv (.s 18))] [0, 3, 7, 8]))))))) (.seq (R [c0 4 (.tk (.c (ki .i64 (-1))))] [3, 4]) (.ret)))
theorem fun76 : Fun Tryz.prog cfg 76 19 cd76 [.s 4] := ⟨rfl, Tryz.f76, _, Tryz.func76, rfl, rfl, by kernel_rfl, by kernel_rfl⟩
@[go_sem] theorem ok76 : calleeOK Tryz.prog 76 = true := by kernel_rfl
@[go_sem] theorem ex76 : (cfg.ext 76).isSome = false := rfl
def cd54 : Cd := .seq (R [c0 3 (.new false (.s 1)), cb 4 (.tk (.c (kb false)))] [0, 3]) (.seq (R [c0 5 (.mv (.s 0)), c0 6 (.ld true 3 (.s 3)), c0 7 (.call none (.c (kf 76)) [(.s 5), (.s 6)]), cb 8 (.bin .geq .any (.s 7) (.c (ki .i64 0))), cb 4 (.tk (.s 8))] [3, 4]) (.ret))
theorem fun54 : Fun Tryz.prog cfg 54 9 cd54 [.s 4] := ⟨rfl, Tryz.f54, _, Tryz.func54, rfl, rfl, by kernel_rfl, by kernel_rfl⟩
@[go_sem] theorem ok54 : calleeOK Tryz.prog 54 = true := by kernel_rfl
@[go_sem] theorem ex54 : (cfg.ext 54).isSome = false := rfl
def cd29 : Cd := .seq (R [c0 3 (.new false (.s 1)), cb 4 (.tk (.c (kb false)))] [0, 3]) (.seq (R [c0 5 (.mv (.s 0)), c0 6 (.ld true 3 (.s 3)), cb 7 (.call none (.c (kf 54)) [(.s 5), (.s 6)]), cb 4 (.tk (.s 7))] [3, 4]) (.ret))
theorem fun29 : Fun Tryz.prog cfg 29 8 cd29 [.s 4] := ⟨rfl, Tryz.f29, _, Tryz.func29, rfl, rfl, by kernel_rfl, by kernel_rfl⟩
@[go_sem] theorem ok29 : calleeOK Tryz.prog 29 = true := by kernel_rfl
@[go_sem] theorem ex29 : (cfg.ext 29).isSome = false := rfl
variable {h : DHeap}
theorem ordIOK : OrdIOK Tryz.prog 79 := ⟨by kernel_rfl, fun a b => @lim_sound ⟨true⟩ _ _ ext_okA _ _ _ _ _ (MI.ordD_lim (h := []) a b)⟩
theorem lessD_lim (a b : Id) : lim Tryz.prog cfg 57 [.agg [vi a.e, vi a.n, vi a.k], .agg [vi b.e, vi b.n, vi b.k]] h = some (vb (lessI a b), h) := by
  refine lim_funp fun57 rfl (by simp) rfl rfl ?_
  delta cd57
  have e1 := ordD_lim (h := []) a b
  simp -implicitDefEqProofs -dsimp only [go_sem, e1]
  simp [lessI]
theorem in_lim (n m : Int) : lim Tryz.prog cfg 63 [vi n, vi m] h = some (vb (decide (0 ≤ n) && decide (n ≤ m)), h) := by
  refine lim_funp fun63 rfl (by simp) rfl rfl ?_
  delta cd63
  by_cases h1 : 0 ≤ n <;> simp -implicitDefEqProofs -dsimp only [go_sem, h1] <;> simp
theorem validD_lim (x : Id) : lim Tryz.prog cfg 40 [.agg [vi x.e, vi x.n, vi x.k]] h = some (vb (validI x), h) := by
  refine lim_funp fun40 rfl (by simp) rfl rfl ?_
  delta cd40
  have e1 := in_lim (h := []) x.e 1048576
  have e2 := in_lim (h := []) x.n 31
  have e3 := in_lim (h := []) x.k 1099511627776
  unfold validI
  cases h1 : (decide (0 ≤ x.e) && decide (x.e ≤ 1048576)) <;> cases h2 : (decide (0 ≤ x.n) && decide (x.n ≤ 31)) <;> cases h3 : (decide (0 ≤ x.k) && decide (x.k ≤ 1099511627776)) <;> rw [h1] at e1 <;> rw [h2] at e2 <;> rw [h3] at e3 <;>
    simp -implicitDefEqProofs -dsimp only [go_sem, e1, e2, e3] <;> simp [h1, h2, h3]
theorem set_setD (c : Id) : ∀ l : List Id, setKey [0, 0, 0] (.agg [vi c.e, vi c.n, vi c.k]) (.sc (.bool true)) (setD l) = some (setD (insI c l))
  | [] => rfl
  | d :: l => by
    have ih := set_setD c l
    simp only [setD] at ih
    simp only [setD, List.map_cons, setKey, eqK_id]
    by_cases h : c = d
    · subst h; simp [insI]
    · simp only [h, decide_false, ih, Option.map_some, Option.some.injEq]
      have : insI c (d :: l) = d :: insI c l := by
        unfold insI
        simp only [List.mem_cons, h, false_or]
        split <;> rfl
      rw [this]; rfl
/-- Rows of rows of instances. -/
def idrs (ls : List (List Id)) : List (List DV) := ls.map fun l => [.list false 3 (idr l)]
@[go_sem] theorem idrs_len (l : List (List Id)) : (idrs l).length = l.length := by simp [idrs]
@[go_sem high] theorem idxP_idrs (l : List (List Id)) (i : Int) (N : List DV → Prop) : IdxP (idrs l) i N = IdxP l i fun c => N [.list false 3 (idr c)] := idxP_map
theorem flatI_take (ls : List (List Id)) (k : Nat) (hk : k < ls.length) : (ls.take (k + 1)).flatten = (ls.take k).flatten ++ ls[k] := by
  rw [List.take_succ_eq_append_getElem hk, List.flatten_append, List.flatten_cons, List.flatten_nil, List.append_nil]
theorem mapNew (h : DHeap) (o : DObj) : (h ++ [o])[h.length]? = some o := by simp
theorem mapP_new (h : DHeap) (es : List (DV × DV)) (N : List (DV × DV) → Prop) : MapP (h ++ [.map es]) h.length N = N es := by simp [MapP]
theorem set_new (h : DHeap) (o o' : DObj) : (h ++ [o]).set h.length o' = h ++ [o'] := by simp
theorem ofD_lim (own : Bool) (ls : List (List Id)) (hl : ls.length ≤ 1000000) (hs : ∀ l ∈ ls, l.length ≤ 1099511627776) :
    lim Tryz.prog cfg 71 [.list own 1 (idrs ls)] h = some (.mp h.length, h ++ [.map (setD (setOf ls.flatten))]) := by
  refine lim_fun fun71 rfl (by simp) rfl ?_
  delta cd71
  simp -implicitDefEqProofs -dsimp only [go_sem]
  refine wp_for (σ := Nat × DV) (fun k => [(3, .mp h.length), (7, k.2), (9, .list false 1 (idrs ls)), (10, vi (ls.length : Nat)), (11, vi (k.1 : Nat))]) (fun k => h ++ [.map (setD (setOf (ls.take k.1).flatten))]) (fun k => ls.length - k.1) (fun k => k.1 ≤ ls.length) (0, .junk) (by simp) rfl rfl ?_
  rintro ⟨k, x⟩ hk N hN
  dsimp only at hk ⊢
  by_cases hlt : k < ls.length
  · have h1 : ((k : Int) < (ls.length : Int)) := by omega
    have hll := hs _ (List.getElem_mem hlt)
    simp -implicitDefEqProofs -dsimp only [go_sem, h1, hlt]
    refine wp_for (σ := Nat × DV) (fun j => [(3, .mp h.length), (7, j.2), (9, .list false 1 (idrs ls)), (10, vi (ls.length : Nat)), (11, vi (k : Nat)), (15, .list false 3 (idr ls[k])), (16, vi (ls[k].length : Nat)), (17, vi (j.1 : Nat))]) (fun j => h ++ [DObj.map (setD (setOf ((ls.take k).flatten ++ ls[k].take j.1)))]) (fun j => ls[k].length - j.1) (fun j => j.1 ≤ ls[k].length) (0, x) (by simp) rfl (by simp) ?_
    rintro ⟨j, y⟩ hj M hM
    dsimp only at hj ⊢
    by_cases hjt : j < ls[k].length
    · have h2 : ((j : Int) < (ls[k].length : Int)) := by omega
      have e : insI ls[k][j] (setOf ((ls.take k).flatten ++ ls[k].take j)) = setOf ((ls.take k).flatten ++ ls[k].take (j + 1)) := by
        rw [List.take_succ_eq_append_getElem hjt, ← List.append_assoc, setOf_snoc]
      simp -implicitDefEqProofs -dsimp only [go_sem, h2, hjt, mapP_new, set_setD, set_new, e]
      refine hM (j + 1, .box [vi ls[k][j].e, vi ls[k][j].n, vi ls[k][j].k]) _ (by dsimp only; omega) (by dsimp only; omega) ?_
      simp -implicitDefEqProofs -dsimp only [go_sem, wrap_succ (show j < 9223372036854775807 by omega)]
    · have h2 : ¬ ((j : Int) < (ls[k].length : Int)) := by omega
      have hj2 : ls[k].take j = ls[k] := List.take_of_length_le (by omega)
      simp -implicitDefEqProofs -dsimp only [go_sem, h2]
      rw [hj2, ← flatI_take ls k hlt]
      refine hN (k + 1, y) _ (by dsimp only; omega) (by dsimp only; omega) ?_
      simp -implicitDefEqProofs -dsimp only [go_sem, wrap_succ (show k < 9223372036854775807 by omega)]
  · have h1 : ¬ ((k : Int) < (ls.length : Int)) := by omega
    have hkl : ls.take k = ls := List.take_of_length_le (by omega)
    rw [hkl]
    simp -implicitDefEqProofs -dsimp only [go_sem, h1]
theorem keysD_lim (j : Nat) : lim Tryz.prog cfg 87 [.mp j] h = some (.fn (.func 102) [] [.ptr h.length 0], h ++ [.cells [.mp j]]) := by
  refine lim_fun fun87 rfl (by simp) rfl ?_
  delta cd87
  simp -implicitDefEqProofs -dsimp only [go_sem]
theorem setD_keys (l : List Id) : (setD l).map (fun e => keyD e.1) = l := by
  simp only [setD, List.map_map]
  exact (List.map_congr_left fun e _ => rfl).trans (List.map_id l)
theorem keysDOK {l : List Id} (hn : l.Nodup) (hl : l.length ≤ 1048576) : KeysDOK (setD l) l := ⟨by simp only [setD, List.map_map]; rfl, hn, hl⟩
theorem sortedD_lim {i j : Nat} {l : List Id} (hn : l.Nodup) (hl : l.length ≤ 1048576) (hi : h[i]? = some (.cells [.mp j])) (hj : h[j]? = some (.map (setD l))) :
    lim Tryz.prog cfg 86 [.fn (.func 102) [] [.ptr i 0], .fn (.func 79) [] []] h = some (.list true 3 (idr (sortD l)), h) := by
  refine lim_ext rfl ?_ rfl
  show keysDF _ _ _ [.fn (.func 102) [] [.ptr i 0], .fn (.func 79) [] []] h = _
  simp only [keysDF, hi, hj]
  generalize hks : (setD l).map (fun e => keyD e.1) = ks
  rw [setD_keys] at hks
  subst hks
  rw [if_pos ⟨rfl, rfl, keysDOK hn hl, ordIOK⟩]
theorem listD_lim {j : Nat} {l : List Id} (hn : l.Nodup) (hl : l.length ≤ 1048576) (hj : h[j]? = some (.map (setD l))) :
    lim Tryz.prog cfg 72 [.mp j] h = some (.list true 3 (idr (sortD l)), h ++ [.cells [.mp j]]) := by
  refine lim_fun fun72 rfl (by simp) rfl ?_
  delta cd72
  have e1 := keysD_lim (h := h) j
  have e2 := sortedD_lim (h := h ++ [.cells [.mp j]]) (i := h.length) (j := j) hn hl (by simp) (by rw [List.getElem?_append_left (List.getElem?_eq_some_iff.1 hj).1]; exact hj)
  simp -implicitDefEqProofs -dsimp only [go_sem, e1, e2]
theorem cleanD_lim (own : Bool) (l : List Id) (hl : l.length ≤ 1048576) : lim Tryz.prog cfg 50 [.list own 3 (idr l)] h = some (.list true 3 (idr (cleanP l)), h) := by
  refine lim_funp fun50 rfl (by simp) (by simp [heapFree, free_idr]) (by simp [heapFree, free_idr]) ?_
  delta cd50
  have e1 := ofD_lim (h := []) false [l] (by simp) (by simp; omega)
  have e2 := listD_lim (h := [.map (setD (setOf l))]) (j := 0) (l := setOf l) (setOf_nodup l) (by have := setOf_len l; omega) rfl
  simp only [idrs, List.map_cons, List.map_nil, List.flatten_cons, List.flatten_nil, List.append_nil, List.length_nil, List.nil_append] at e1
  simp -implicitDefEqProofs -dsimp only [go_sem, e1, e2]
  rfl
theorem unionD_lim (o1 o2 : Bool) (l m : List Id) (hl : l.length + m.length ≤ 1048576) : lim Tryz.prog cfg 98 [.list o1 3 (idr l), .list o2 3 (idr m)] h = some (.list true 3 (idr (cleanP (l ++ m))), h) := by
  refine lim_funp fun98 rfl (by simp) (by simp [heapFree, free_idr]) (by simp [heapFree, free_idr]) ?_
  delta cd98
  have e1 := ofD_lim (h := []) false [l, m] (by simp) (by simp; omega)
  have e2 := listD_lim (h := [.map (setD (setOf (l ++ m)))]) (j := 0) (l := setOf (l ++ m)) (setOf_nodup _) (by have := setOf_len (l ++ m); simp at this; omega) rfl
  simp only [idrs, List.map_cons, List.map_nil, List.flatten_cons, List.flatten_nil, List.append_nil, List.length_nil, List.nil_append] at e1
  simp -implicitDefEqProofs -dsimp only [go_sem, e1, e2]
  rfl
@[go_sem] theorem eqs_id (x y : Id) : eqs [0, 0, 0] [vi x.e, vi x.n, vi x.k] [vi y.e, vi y.n, vi y.k] = some (decide (x = y)) := by
  have := eqK_id x y
  simpa [eqKey] using this
theorem same_setOf (l m : List Id) : sameP (setOf l) (setOf m) = sameP l m := by
  rw [Bool.eq_iff_iff, sameP_iff, sameP_iff]
  simp only [mem_setOf]
theorem rightI_of (l : List Id) : rightI l = true ↔ ∀ i (h : i + 1 < l.length), lessI (l[i]'(by omega)) l[i + 1] = true := by
  induction l with
  | nil => simp [rightI]
  | cons a l ih =>
    cases l with
    | nil => simp [rightI]
    | cons b l =>
      simp only [rightI, Bool.and_eq_true, ih]
      constructor
      · rintro ⟨h1, h2⟩ i hi
        cases i with
        | zero => exact h1
        | succ i => exact h2 i (by simpa using hi)
      · intro hh
        exact ⟨hh 0 (by simp), fun i hi => hh (i + 1) (by simpa using hi)⟩
theorem rightD_lim (own : Bool) (l : List Id) (hl : l.length ≤ 1099511627776) : lim Tryz.prog cfg 31 [.list own 3 (idr l)] h = some (vb (rightI l), h) := by
  refine lim_funp fun31 rfl (by simp) (by simp [heapFree, free_idr]) rfl ?_
  delta cd31
  have w1 : IntKind.wrap .i64 ((l.length : Int) - 1) = (l.length : Int) - 1 := wrap64 (by omega) (by omega)
  have w2 : mmI true ((l.length : Int) - 1) 0 = ((l.length - 1 : Nat) : Int) := by unfold mmI; simp only [if_true]; split <;> omega
  simp -implicitDefEqProofs -dsimp only [go_sem, w1, w2]
  refine wp_for (σ := Nat) (fun k => [(0, .list false 3 (idr l)), (7, vi ((l.length - 1 : Nat) : Int)), (8, vi (k : Nat))]) (fun _ => []) (fun k => l.length - k) (fun k => k ≤ l.length - 1 ∧ ∀ i (h : i + 1 < l.length), i < k → lessI (l[i]'(by omega)) l[i + 1] = true) 0 (by simp) rfl rfl ?_
  rintro k ⟨hk, hb⟩ N hN
  by_cases hlt : k < l.length - 1
  · have h1 : ((k : Int) < ((l.length - 1 : Nat) : Int)) := by omega
    have i1 : k < l.length := by omega
    have i2 : k + 1 < l.length := by omega
    have e1 := lessD_lim (h := []) l[k] l[k + 1]
    have w3 : IntKind.wrap .i64 ((k : Int) + 1) = ((k + 1 : Nat) : Int) := wrap_succ (show k < 9223372036854775807 by omega)
    cases hc : lessI l[k] l[k + 1] with
    | true =>
      rw [hc] at e1
      simp -implicitDefEqProofs -dsimp only [go_sem, wp_RD, h1, i1, i2, w3, e1]
      refine hN (k + 1) _ (by omega) ⟨by omega, fun i hi hik => ?_⟩ ?_
      · by_cases e : i = k
        · subst e; exact hc
        · exact hb i hi (by omega)
      · simp -implicitDefEqProofs -dsimp only [go_sem]
    | false =>
      rw [hc] at e1
      have hr : rightI l = false := by
        rw [Bool.eq_false_iff]
        intro e
        rw [rightI_of] at e
        rw [e k i2] at hc
        cases hc
      rw [hr]
      simp -implicitDefEqProofs -dsimp only [go_sem, wp_RD, h1, i1, i2, w3, e1]
  · have h1 : ¬ ((k : Int) < ((l.length - 1 : Nat) : Int)) := by omega
    have hr : rightI l = true := (rightI_of l).2 fun i hi => hb i hi (by omega)
    rw [hr]
    simp -implicitDefEqProofs -dsimp only [go_sem, h1]
theorem indexD_lim (own : Bool) (l : List Id) (x : Id) (hl : l.length ≤ 1099511627776) :
    lim Tryz.prog cfg 76 [.list own 3 (idr l), .agg [vi x.e, vi x.n, vi x.k]] h = some (vi (posI (fun y => decide (x = y)) l), h) := by
  refine lim_funp fun76 rfl (by simp) (by simp [heapFree, heapFree.all, free_idr]) rfl ?_
  delta cd76
  simp -implicitDefEqProofs -dsimp only [go_sem]
  refine wp_for (σ := Nat) (fun k => [(0, .list false 3 (idr l)), (3, .box [vi x.e, vi x.n, vi x.k]), (7, vi (l.length : Nat)), (8, vi (k : Nat))]) (fun _ => []) (fun k => l.length - k) (fun k => k ≤ l.length ∧ ∀ j (hj : j < l.length), j < k → decide (x = l[j]) = false) 0 (by simp) rfl rfl ?_
  rintro k ⟨hk, hj⟩ N hN
  by_cases hlt : k < l.length
  · have h1 : ((k : Int) < (l.length : Int)) := by omega
    by_cases hc : x = l[k]
    · have e := posI_at (p := fun y => decide (x = y)) hlt (by simpa using hc) hj
      simp -implicitDefEqProofs -dsimp only [go_sem, wp_RD, h1, hlt, eq_true hc, e]
    · simp -implicitDefEqProofs -dsimp only [go_sem, wp_RD, h1, hlt, eq_false hc]
      refine hN (k + 1) _ (by omega) ⟨by omega, fun j hj1 hj2 => ?_⟩ ?_
      · by_cases e : j = k
        · subst e; simpa using hc
        · exact hj j hj1 (by omega)
      · simp -implicitDefEqProofs -dsimp only [go_sem, wrap_succ (show k < 9223372036854775807 by omega)]
  · have h1 : ¬ ((k : Int) < (l.length : Int)) := by omega
    have e := posI_no (p := fun y => decide (x = y)) (l := l) fun j hj1 => hj j hj1 (by omega)
    simp -implicitDefEqProofs -dsimp only [go_sem, h1, e]
theorem any_mem {α : Type} [DecidableEq α] (x : α) (l : List α) : l.any (fun y => decide (x = y)) = decide (x ∈ l) := by
  rw [Bool.eq_iff_iff]
  simp only [List.any_eq_true, decide_eq_true_eq]
  exact ⟨fun ⟨y, hy, e⟩ => e ▸ hy, fun h => ⟨x, h, rfl⟩⟩
theorem containsD_lim (own : Bool) (l : List Id) (x : Id) (hl : l.length ≤ 1099511627776) :
    lim Tryz.prog cfg 54 [.list own 3 (idr l), .agg [vi x.e, vi x.n, vi x.k]] h = some (vb (decide (x ∈ l)), h) := by
  refine lim_funp fun54 rfl (by simp) (by simp [heapFree, heapFree.all, free_idr]) rfl ?_
  delta cd54
  have e1 := indexD_lim (h := []) false l x hl
  have e2 := posI_ge (fun y => decide (x = y)) l
  rw [any_mem] at e2
  simp -implicitDefEqProofs -dsimp only [go_sem, e1, e2]
  simp
theorem hasD_lim (own : Bool) (l : List Id) (x : Id) (hl : l.length ≤ 1099511627776) :
    lim Tryz.prog cfg 29 [.list own 3 (idr l), .agg [vi x.e, vi x.n, vi x.k]] h = some (vb (decide (x ∈ l)), h) := by
  refine lim_funp fun29 rfl (by simp) (by simp [heapFree, heapFree.all, free_idr]) rfl ?_
  delta cd29
  have e1 := containsD_lim (h := []) false l x hl
  simp -implicitDefEqProofs -dsimp only [go_sem, e1]
  simp
end Go.DS

/-
  Walks: attributes.
-/
namespace Go.DS
open Go Go.Proofs
set_option maxRecDepth 100000
set_option linter.unusedVariables false
set_option linter.unusedSimpArgs false
def cd42 : Cd := .seq (R [c0 2 (.new false (.s 0)), c0 3 (.new false (.s 1)), cb 4 (.tk (.c (kb false)))] [2, 3, 6]) (.seq (.seq (R [c0 7 (.mov 1 (.s 3)), c0 8 (.ld false 5 (.s 7)), c0 9 (.len 1 (.s 8)), c0 10 (.mv (.c (ki .i64 0)))] [2, 3, 6, 8, 9, 10]) (.block 0 (LP [2, 3, 6, 8, 9, 10] (.seq (R [c0 11 (.bin .lss .any (.s 10) (.s 9))] [2, 3, 6, 8, 9, 10, 11]) (.seq (.ite (.s 11) (.skip) (.exit 0)) (.seq (.block 1 (.seq (R [c0 12 (.ixp 3 (.s 8) (.s 10)), c0 13 (.ld true 3 (.s 12)), c0 6 (.new false (.c (.agg [ki .i64 0, ki .i64 0, ki .i64 0]))), cn (.st 3 (.s 6) (.s 13))] [2, 3, 6, 8, 9, 10]) (.seq (R [c0 14 (.ld true 3 (.s 6)), c0 15 (.ld true 3 (.s 2)), cb 16 (.bin .eql (.flat [0, 0, 0]) (.s 14) (.s 15)), cb 17 (.mv (.s 16)), cg 18 17 false (.mov 0 (.s 6)), cg 19 17 false (.ld false 1 (.s 18)), cg 20 17 false (.mov 0 (.s 2)), cg 21 17 false (.ld false 1 (.s 20)), ch 22 17 false (.bin .neq .any (.s 19) (.s 21)), cb 23 (.pick (.s 17) (.c (kb true)) (.s 22)), cb 24 (.mv (.s 23)), cg 25 24 false (.ld true 3 (.s 6)), ch 26 24 false (.call none (.c (kf 40)) [(.s 25)]), ch 27 24 false (.un .not (.s 26)), cb 28 (.pick (.s 24) (.c (kb true)) (.s 27))] [2, 3, 6, 8, 9, 10, 28]) (.ite (.s 28) (.seq (R [cb 4 (.tk (.c (kb false)))] [2, 3, 4, 6]) (.ret)) (.skip))))) (R [c0 29 (.bin .add .any (.s 10) (.c (ki .i64 1))), c0 10 (.mv (.s 29))] [2, 3, 6, 8, 9, 10]))))))) (.seq (R [c0 30 (.mov 0 (.s 3)), c0 31 (.ld false 1 (.s 30)), cb 32 (.bin .leq .any (.c (ki .i64 0)) (.s 31)), cb 33 (.mv (.s 32)), cg 34 33 true (.mov 0 (.s 3)), cg 35 33 true (.ld false 1 (.s 34)), ch 36 33 true (.bin .leq .any (.s 35) (.c (ki .i64 1099511627776))), cb 37 (.pick (.s 33) (.s 36) (.c (kb false))), cb 38 (.mv (.s 37)), cg 39 38 true (.mov 1 (.s 3)), cg 40 38 true (.ld false 5 (.s 39)), cg 41 38 true (.len 1 (.s 40)), ch 42 38 true (.bin .leq .any (.s 41) (.c (ki .i64 1024))), cb 43 (.pick (.s 38) (.s 42) (.c (kb false))), cb 44 (.mv (.s 43)), cg 45 44 true (.mov 1 (.s 3)), cg 46 44 true (.ld false 5 (.s 45)), ch 47 44 true (.call none (.c (kf 31)) [(.s 46)]), cb 48 (.pick (.s 44) (.s 47) (.c (kb false))), cb 4 (.tk (.s 48))] [2, 3, 4, 6]) (.ret)))
theorem fun42 : Fun Tryz.prog cfg 42 49 cd42 [.s 4] := ⟨rfl, Tryz.f42, _, Tryz.func42, rfl, rfl, by kernel_rfl, by kernel_rfl⟩
@[go_sem] theorem ok42 : calleeOK Tryz.prog 42 = true := by kernel_rfl
@[go_sem] theorem ex42 : (cfg.ext 42).isSome = false := rfl
def cd97 : Cd := .seq (R [c0 3 (.new false (.s 0)), cb 4 (.tk (.c (kb false)))] [1, 2, 3]) (.seq (R [c0 5 (.mov 0 (.s 3)), c0 6 (.ld true 3 (.s 5)), c0 7 (.ld true 3 (.s 1)), cb 8 (.bin .neq (.flat [0, 0, 0]) (.s 6) (.s 7)), cb 9 (.mv (.s 8)), cg 10 9 true (.mov 0 (.s 3)), cg 11 9 true (.mov 0 (.s 10)), cg 12 9 true (.ld false 1 (.s 11)), cg 13 9 true (.mov 0 (.s 1)), cg 14 9 true (.ld false 1 (.s 13)), ch 15 9 true (.bin .eql .any (.s 12) (.s 14)), cb 16 (.pick (.s 9) (.s 15) (.c (kb false))), cb 17 (.mv (.s 16)), cg 18 17 true (.mov 3 (.s 3)), cg 19 17 true (.ld true 8 (.s 18)), cg 20 17 true (.ld true 8 (.s 2)), ch 21 17 true (.call none (.c (kf 30)) [(.s 19), (.s 20)]), cb 22 (.pick (.s 17) (.s 21) (.c (kb false))), cb 4 (.tk (.s 22))] [3, 4]) (.ret))
theorem fun97 : Fun Tryz.prog cfg 97 23 cd97 [.s 4] := ⟨rfl, Tryz.f97, _, Tryz.func97, rfl, rfl, by kernel_rfl, by kernel_rfl⟩
@[go_sem] theorem ok97 : calleeOK Tryz.prog 97 = true := by kernel_rfl
@[go_sem] theorem ex97 : (cfg.ext 97).isSome = false := rfl
def cd81 : Cd := .seq (R [c0 4 (.new false (.s 1)), c0 5 (.new false (.s 2)), c0 6 (.new false (.c (.agg [ki .i64 0, kn 3])))] [0, 4, 5, 6, 11]) (.seq (R [c0 12 (.mkf (.func 97) 0 [(.s 4), (.s 5)]), c0 7 (.tk (.s 12))] [0, 4, 5, 6, 7, 11]) (.seq (R [c0 8 (.tk (.c (kn 3)))] [0, 4, 5, 6, 7, 8, 11]) (.seq (R [c0 9 (.tk (.c (ki .i64 0)))] [0, 4, 5, 6, 7, 8, 9, 11]) (.seq (.seq (R [c0 13 (.mv (.s 0)), c0 14 (.len 1 (.s 13)), c0 15 (.mv (.c (ki .i64 0)))] [4, 5, 6, 7, 8, 9, 11, 13, 14, 15]) (.block 0 (LP [4, 5, 6, 7, 8, 9, 11, 13, 14, 15] (.seq (R [c0 16 (.bin .lss .any (.s 15) (.s 14))] [4, 5, 6, 7, 8, 9, 11, 13, 14, 15, 16]) (.seq (.ite (.s 16) (.skip) (.exit 0)) (.seq (.block 1 (.seq (R [c0 17 (.ixp 13 (.s 13) (.s 15)), c0 18 (.ld true 13 (.s 17)), c0 11 (.new false (.c (.agg [ki .i64 0, ki .i64 0, ki .i64 0, ki .i64 0, ki .i64 0, ki .i64 0, ks [], ks [], ki .i64 0, ki .i64 0, ki .i64 0, ki .i64 0, kn 3]))), cn (.st 13 (.s 11) (.s 18))] [4, 5, 6, 7, 8, 9, 11, 13, 14, 15]) (.seq (R [c0 19 (.mv (.s 7)), c0 20 (.ld true 13 (.s 11)), cb 21 (.call none (.s 19) [(.s 20)])] [4, 5, 6, 7, 8, 9, 11, 13, 14, 15, 21]) (.ite (.s 21) (.seq (R [c0 22 (.tk (.s 8)), c0 23 (.mov 0 (.s 11)), c0 24 (.ld true 3 (.s 23)), c0 25 (.bsl 3 [(.s 24)]), c0 26 (.app 3 28 false (.s 22) (.s 25)), c0 8 (.tk (.s 26))] [4, 5, 6, 7, 8, 9, 11, 13, 14, 15]) (R [c0 27 (.mv (.s 9)), c0 28 (.mov 11 (.s 11)), c0 29 (.mov 0 (.s 28)), c0 30 (.ld false 1 (.s 29)), c0 31 (.mm true (.s 27) (.s 30)), c0 9 (.tk (.s 31))] [4, 5, 6, 7, 8, 9, 11, 13, 14, 15])) (.skip))))) (R [c0 32 (.bin .add .any (.s 15) (.c (ki .i64 1))), c0 15 (.mv (.s 32))] [4, 5, 6, 7, 8, 9, 11, 13, 14, 15]))))))) (.seq (R [c0 33 (.mv (.s 9)), c0 34 (.bin .add .any (.s 33) (.c (ki .i64 1))), c0 35 (.mv (.s 8)), c0 36 (.call none (.c (kf 50)) [(.s 35)]), c0 37 (.bld [ki .i64 0, kz 3] [(0, 1, (.s 34)), (1, 1, (.s 36))]), cn (.st 2 (.s 6) (.s 37))] [4, 5, 6, 11]) (.ret))))))
theorem fun81 : Fun Tryz.prog cfg 81 38 cd81 [.b 6 true 2] := ⟨rfl, Tryz.f81, _, Tryz.func81, rfl, rfl, by kernel_rfl, by kernel_rfl⟩
@[go_sem] theorem ok81 : calleeOK Tryz.prog 81 = true := by kernel_rfl
@[go_sem] theorem ex81 : (cfg.ext 81).isSome = false := rfl
def cd83 : Cd := .seq (R [c0 2 (.new false (.s 0)), c0 3 (.new false (.s 1)), c0 4 (.new false (.c (.agg [ki .i64 0, kn 3])))] [2, 3, 4]) (.seq (RD [cd (some 5) false none (.mov 0 (.s 2)) false false [2], cd (some 6) false none (.ld false 1 (.s 5)) false false [5], cd (some 7) false none (.mov 0 (.s 3)) false false [3], cd (some 8) false none (.ld false 1 (.s 7)) false false [7], cd (some 9) false none (.mm true (.s 6) (.s 8)) false false [6, 8], cd (some 10) false none (.mov 1 (.s 2)) false false [2], cd (some 11) false none (.ld false 5 (.s 10)) false false [10], cd (some 12) false none (.mov 1 (.s 3)) false false [3], cd (some 13) false none (.ld false 5 (.s 12)) false false [12], cd (some 14) false none (.call none (.c (kf 98)) [(.s 11), (.s 13)]) false false [11, 13], cd (some 15) false none (.bld [ki .i64 0, kz 3] [(0, 1, (.s 9)), (1, 1, (.s 14))]) false false [9, 14], cd none false none (.st 2 (.s 4) (.s 15)) false false [4, 15]] [2, 3, 4] []) (.ret))
theorem fun83 : Fun Tryz.prog cfg 83 16 cd83 [.b 4 true 2] := ⟨rfl, Tryz.f83, _, Tryz.func83, rfl, rfl, by kernel_rfl, by kernel_rfl⟩
@[go_sem] theorem ok83 : calleeOK Tryz.prog 83 = true := by kernel_rfl
@[go_sem] theorem ex83 : (cfg.ext 83).isSome = false := rfl
variable {h : DHeap}
abbrev attL (a : Att) : List DV := [vi a.seq, .list false 3 (idr a.deps)]
abbrev attD (a : Att) : DV := .agg [vi a.seq, .list false 3 (idr a.deps)]
def ats (l : List Att) : List (List DV) := l.map fun a => [vi a.seq, .list false 3 (idr a.deps)]
@[go_sem] theorem ats_len (l : List Att) : (ats l).length = l.length := by simp [ats]
@[go_sem] theorem ats_snoc (l : List Att) (a : Att) : ats l ++ [[.sc (.int .i64 a.seq), .list false 3 (idr a.deps)]] = ats (l ++ [a]) := by simp [ats]
@[go_sem high] theorem idxP_ats (l : List Att) (i : Int) (N : List DV → Prop) : IdxP (ats l) i N = IdxP l i fun a => N [vi a.seq, .list false 3 (idr a.deps)] := idxP_map
theorem free_ats : ∀ l : List Att, heapFree.alls (ats l) = true
  | [] => rfl
  | s :: l => by
    have := free_ats l
    simp only [ats] at this
    simp only [ats, List.map_cons, heapFree.alls, heapFree.all, heapFree, this, free_idr, Bool.and_self]
abbrev knoL (x : Kno) : List DV := [vi x.id.e, vi x.id.n, vi x.id.k, vi x.cmd.client, vi x.cmd.seq, vi x.cmd.op, vs x.cmd.path, vs x.cmd.value, vi x.cmd.version, vi x.cmd.a, vi x.cmd.b, vi x.att.seq, .list false 3 (idr x.att.deps)]
abbrev knoD (x : Kno) : DV := .agg [vi x.id.e, vi x.id.n, vi x.id.k, vi x.cmd.client, vi x.cmd.seq, vi x.cmd.op, vs x.cmd.path, vs x.cmd.value, vi x.cmd.version, vi x.cmd.a, vi x.cmd.b, vi x.att.seq, .list false 3 (idr x.att.deps)]
def kns (l : List Kno) : List (List DV) := l.map fun x => [vi x.id.e, vi x.id.n, vi x.id.k, vi x.cmd.client, vi x.cmd.seq, vi x.cmd.op, vs x.cmd.path, vs x.cmd.value, vi x.cmd.version, vi x.cmd.a, vi x.cmd.b, vi x.att.seq, .list false 3 (idr x.att.deps)]
@[go_sem] theorem kns_len (l : List Kno) : (kns l).length = l.length := by simp [kns]
@[go_sem high] theorem idxP_kns (l : List Kno) (i : Int) (N : List DV → Prop) : IdxP (kns l) i N = IdxP l i fun x => N [vi x.id.e, vi x.id.n, vi x.id.k, vi x.cmd.client, vi x.cmd.seq, vi x.cmd.op, vs x.cmd.path, vs x.cmd.value, vi x.cmd.version, vi x.cmd.a, vi x.cmd.b, vi x.att.seq, .list false 3 (idr x.att.deps)] := idxP_map
theorem free_kns : ∀ l : List Kno, heapFree.alls (kns l) = true
  | [] => rfl
  | s :: l => by
    have := free_kns l
    simp only [kns] at this
    simp only [kns, List.map_cons, heapFree.alls, heapFree.all, heapFree, this, free_idr, Bool.and_self]
theorem mmI_max (a b : Int) : mmI true a b = max a b := by unfold mmI; simp only [if_true]; split <;> omega
def depOK (id x : Id) : Bool := decide (x ≠ id) && decide (x.e = id.e) && validI x
theorem validA_eq (id : Id) (a : Att) : validA id a = (a.deps.all (depOK id) && (decide (0 ≤ a.seq) && decide (a.seq ≤ 1099511627776)) && decide (a.deps.length ≤ 1024) && rightI a.deps) := rfl
set_option maxHeartbeats 1000000 in
theorem validA_lim (id : Id) (a : Att) (hl : a.deps.length ≤ 1099511627776) : lim Tryz.prog cfg 42 [.agg [vi id.e, vi id.n, vi id.k], attD a] h = some (vb (validA id a), h) := by
  refine lim_funp fun42 rfl (by simp) (by simp [heapFree, heapFree.all, free_idr]) rfl ?_
  delta cd42
  rw [validA_eq]
  obtain ⟨seq, deps⟩ := a
  dsimp only at hl ⊢
  simp -implicitDefEqProofs -dsimp only [go_sem]
  refine wp_for (σ := Nat × DV) (fun k => [(2, .box [vi id.e, vi id.n, vi id.k]), (3, .box [vi seq, .list false 3 (idr deps)]), (6, k.2), (8, .list false 3 (idr deps)), (9, vi (deps.length : Nat)), (10, vi (k.1 : Nat))]) (fun _ => []) (fun k => deps.length - k.1) (fun k => k.1 ≤ deps.length ∧ ∀ j (hj : j < deps.length), j < k.1 → depOK id deps[j] = true) (0, .junk) (by simp) rfl rfl ?_
  rintro ⟨k, y⟩ ⟨hk, hj⟩ N hN
  dsimp only at hk hj
  by_cases hlt : k < deps.length
  · have h1 : ((k : Int) < (deps.length : Int)) := by omega
    have e1 := validD_lim (h := []) deps[k]
    have go : depOK id deps[k] = true → ∀ (z : DV) a', keepA (some [2, 3, 6, 8, 9, 10]) a' = [(2, .box [vi id.e, vi id.n, vi id.k]), (3, .box [vi seq, .list false 3 (idr deps)]), (6, z), (8, .list false 3 (idr deps)), (9, vi (deps.length : Nat)), (10, vi ((k + 1 : Nat) : Int))] → N a' [] := fun hd z a' ha => by
      refine hN (k + 1, z) a' (by dsimp only; omega) ⟨by dsimp only; omega, fun j hj1 hj2 => ?_⟩ ha
      by_cases e : j = k
      · subst e; exact hd
      · exact hj j hj1 (by dsimp only at hj2; omega)
    have no : depOK id deps[k] = false → deps.all (depOK id) = false := fun hd => by
      rw [Bool.eq_false_iff]
      intro q
      rw [List.all_eq_true] at q
      rw [q _ (List.getElem_mem hlt)] at hd
      cases hd
    by_cases c1 : deps[k] = id
    · have hd : depOK id deps[k] = false := by simp [depOK, c1]
      simp -implicitDefEqProofs -dsimp only [go_sem, h1, hlt, eq_true c1, no hd]
      rfl
    · by_cases c2 : deps[k].e = id.e
      · cases c3 : validI deps[k] with
        | true =>
          rw [c3] at e1
          have hd : depOK id deps[k] = true := by simp [depOK, c1, c2, c3]
          simp -implicitDefEqProofs -dsimp only [go_sem, h1, hlt, eq_false c1, eq_true c2, e1]
          refine go hd (.box [vi deps[k].e, vi deps[k].n, vi deps[k].k]) _ ?_
          simp -implicitDefEqProofs -dsimp only [go_sem, wrap_succ (show k < 9223372036854775807 by omega)]
        | false =>
          rw [c3] at e1
          have hd : depOK id deps[k] = false := by simp [depOK, c3]
          simp -implicitDefEqProofs -dsimp only [go_sem, h1, hlt, eq_false c1, eq_true c2, e1, no hd]
          rfl
      · have hd : depOK id deps[k] = false := by simp [depOK, c2]
        simp -implicitDefEqProofs -dsimp only [go_sem, h1, hlt, eq_false c1, eq_false c2, no hd]
        rfl
  · have h1 : ¬ ((k : Int) < (deps.length : Int)) := by omega
    have hall : deps.all (depOK id) = true := by
      rw [List.all_eq_true]
      intro x hx
      obtain ⟨j, hj1, rfl⟩ := List.getElem_of_mem hx
      exact hj j hj1 (by omega)
    have e2 := rightD_lim (h := []) false deps hl
    rw [hall]
    by_cases c1 : 0 ≤ seq
    · by_cases c2 : seq ≤ 1099511627776
      · by_cases c3 : deps.length ≤ 1024
        · have c3' : (deps.length : Int) ≤ 1024 := by omega
          cases c4 : rightI deps <;> rw [c4] at e2 <;> simp -implicitDefEqProofs -dsimp only [go_sem, h1, c1, c2, c3, c3', e2] <;> simp [c1, c2, c3]
        · have c3' : ¬ (deps.length : Int) ≤ 1024 := by omega
          simp -implicitDefEqProofs -dsimp only [go_sem, h1, c1, c2, c3, c3', e2] <;> simp [c1, c2, c3]
      · simp -implicitDefEqProofs -dsimp only [go_sem, h1, c1, c2, e2] <;> simp [c1, c2]
    · simp -implicitDefEqProofs -dsimp only [go_sem, h1, c1, e2] <;> simp [c1]
theorem merge_lim (a b : Att) (hl : a.deps.length + b.deps.length ≤ 1048576) : lim Tryz.prog cfg 83 [attD a, attD b] h = some (attD (mergeP a b), h) := by
  refine lim_funp fun83 rfl (by simp) (by simp [heapFree, heapFree.all, free_idr]) (by simp [heapFree, heapFree.all, free_idr]) ?_
  delta cd83
  have e1 := unionD_lim (h := []) false false a.deps b.deps hl
  simp -implicitDefEqProofs -dsimp only [go_sem, wp_RD, e1, mmI_max]
  rfl
theorem fold_len (f : Att) (l : List Att) (k B : Nat) (h : ∀ a ∈ l, a.deps.length ≤ B) : ((l.take k).foldl mergeP f).deps.length ≤ f.deps.length + k * B := by
  induction k generalizing f l with
  | zero => simp
  | succ k ih =>
    cases l with
    | nil => simp
    | cons a l =>
      rw [List.take_succ_cons, List.foldl_cons]
      have h1 := ih (mergeP f a) l fun x hx => h x (List.mem_cons_of_mem _ hx)
      have h2 := merge_len f a
      have h3 := h a List.mem_cons_self
      rw [Nat.succ_mul]
      omega
theorem matters_lim (x : Kno) (id : Id) (c : Cmd) (hx : x.cmd.path.length ≤ 1099511627776) (hc : c.path.length ≤ 1099511627776) :
    lim Tryz.prog cfg 97 [knoD x, .eptr [vi id.e, vi id.n, vi id.k], .eptr (cmdL c)] h = some (vb (matters id c x), h) := by
  refine lim_funp fun97 rfl (by simp) (by simp [heapFree, heapFree.all, free_idr]) rfl ?_
  delta cd97
  have e1 := both_lim (h := []) x.cmd c hx hc
  unfold matters
  by_cases c1 : x.id = id
  · simp -implicitDefEqProofs -dsimp only [go_sem, eq_true c1, e1]
    simp [c1]
  · by_cases c2 : x.id.e = id.e
    · cases c3 : bothB x.cmd c <;> rw [c3] at e1 <;> simp -implicitDefEqProofs -dsimp only [go_sem, eq_false c1, eq_true c2, e1] <;> simp [c1, c2]
    · simp -implicitDefEqProofs -dsimp only [go_sem, eq_false c1, eq_false c2, e1]
      simp [c2]
theorem agree_iff (l : List Att) (hl : 0 < l.length) : (∀ j (hj : j < l.length), sameA l[j] l[0] = true) ↔ ∀ a ∈ l, sameA a l[0] = true :=
  ⟨fun h a ha => by obtain ⟨j, hj, rfl⟩ := List.getElem_of_mem ha; exact h j hj, fun h j hj => h _ (List.getElem_mem hj)⟩
/-- Are all the same? -/
def agreeP (l : List Att) : Bool := match l with
  | [] => false
  | a :: l => (a :: l).all fun b => sameA b a
theorem agreeP_at (l : List Att) (hl : 0 < l.length) : agreeP l = l.all fun b => sameA b l[0] := by
  cases l with
  | nil => simp at hl
  | cons a l => rfl
/-- How far 'Local' is. -/
def locN (l : List Kno) (id : Id) (c : Cmd) : Int := (l.filter (matters id c)).foldl (fun n x => max n x.att.seq) 0
def locD (l : List Kno) (id : Id) (c : Cmd) : List Id := (l.filter (matters id c)).map (·.id)
theorem local_eq (l : List Kno) (id : Id) (c : Cmd) : localP l id c = ⟨locN l id c + 1, cleanP (locD l id c)⟩ := rfl
theorem loc_snoc (l : List Kno) (x : Kno) (id : Id) (c : Cmd) : locN (l ++ [x]) id c = (if matters id c x then max (locN l id c) x.att.seq else locN l id c) ∧ locD (l ++ [x]) id c = (if matters id c x then locD l id c ++ [x.id] else locD l id c) := by
  unfold locN locD
  rw [List.filter_append]
  cases hm : matters id c x <;> simp [hm]
theorem locD_len (l : List Kno) (id : Id) (c : Cmd) : (locD l id c).length ≤ l.length := by
  unfold locD; rw [List.length_map]; exact List.length_filter_le ..
theorem locN_le (l : List Kno) (id : Id) (c : Cmd) (B : Int) (hB : 0 ≤ B) (h : ∀ x ∈ l, x.att.seq ≤ B) : locN l id c ≤ B := foldl_max_le _ 0 B hB fun x hx => h x (List.mem_filter.1 hx).1
theorem locN_ge (l : List Kno) (id : Id) (c : Cmd) : 0 ≤ locN l id c := (foldl_max_ge _ 0).1
set_option maxHeartbeats 1000000 in
theorem local_lim (own : Bool) (l : List Kno) (id : Id) (c : Cmd) (hl : l.length ≤ 100000) (hs : ∀ x ∈ l, x.cmd.path.length ≤ 1099511627776 ∧ x.att.seq ≤ 9223372036854775806) (hc : c.path.length ≤ 1099511627776) :
    lim Tryz.prog cfg 81 [.list own 13 (kns l), .agg [vi id.e, vi id.n, vi id.k], cmdD c] h = some (attD (localP l id c), h) := by
  refine lim_funp fun81 rfl (by simp) (by simp [heapFree, heapFree.all, free_kns]) (by simp [heapFree, heapFree.all, free_idr]) ?_
  delta cd81
  rw [local_eq]
  simp -implicitDefEqProofs -dsimp only [go_sem]
  refine wp_for (σ := Nat × DV) (fun k => [(4, .eptr [vi id.e, vi id.n, vi id.k]), (5, .eptr (cmdL c)), (6, .box [vi 0, .list false 3 []]), (7, .fn (.func 97) [] [.eptr [vi id.e, vi id.n, vi id.k], .eptr (cmdL c)]), (8, .list true 3 (idr (locD (l.take k.1) id c))), (9, vi (locN (l.take k.1) id c)), (11, k.2), (13, .list false 13 (kns l)), (14, vi (l.length : Nat)), (15, vi (k.1 : Nat))]) (fun _ => []) (fun k => l.length - k.1) (fun k => k.1 ≤ l.length) (0, .junk) (by simp) rfl rfl ?_
  rintro ⟨k, y⟩ hk N hN
  dsimp only at hk
  by_cases hlt : k < l.length
  · have h1 : ((k : Int) < (l.length : Int)) := by omega
    have e1 := matters_lim (h := []) l[k] id c (hs _ (List.getElem_mem hlt)).1 hc
    obtain ⟨s1, s2⟩ := loc_snoc (l.take k) l[k] id c
    rw [← List.take_succ_eq_append_getElem hlt] at s1 s2
    have hlen : (locD (l.take k) id c).length ≤ 100000 := by have := locD_len (l.take k) id c; rw [List.length_take] at this; omega
    have hm : ((locD (l.take k) id c).length + 1) * 28 ≤ maxLenD := by unfold maxLenD; omega
    cases c1 : matters id c l[k] with
    | true =>
      rw [c1] at e1 s1 s2
      simp only [if_true] at s1 s2
      simp -implicitDefEqProofs -dsimp only [go_sem, h1, hlt, e1, hm, mmI_max]
      rw [← s1, ← s2]
      refine hN (k + 1, .box (knoL l[k])) _ (by dsimp only; omega) (by dsimp only; omega) ?_
      simp -implicitDefEqProofs -dsimp only [go_sem, wrap_succ (show k < 9223372036854775807 by omega)]
    | false =>
      rw [c1] at e1 s1 s2
      simp only [Bool.false_eq_true, if_false] at s1 s2
      simp -implicitDefEqProofs -dsimp only [go_sem, h1, hlt, e1]
      rw [← s1, ← s2]
      refine hN (k + 1, .box (knoL l[k])) _ (by dsimp only; omega) (by dsimp only; omega) ?_
      simp -implicitDefEqProofs -dsimp only [go_sem, wrap_succ (show k < 9223372036854775807 by omega)]
  · have h1 : ¬ ((k : Int) < (l.length : Int)) := by omega
    have hkl : l.take k = l := List.take_of_length_le (by omega)
    rw [hkl]
    have g1 := locN_ge l id c
    have g2 := locN_le l id c 9223372036854775806 (by omega) fun x hx => (hs x hx).2
    have g3 : IntKind.wrap .i64 (locN l id c + 1) = locN l id c + 1 := wrap64 (by omega) (by omega)
    have e1 := cleanD_lim (h := []) false (locD l id c) (by have := locD_len l id c; omega)
    simp -implicitDefEqProofs -dsimp only [go_sem, h1, g3, e1]
end Go.DS

/-
  Ballots, instances, messages, books: plain.
-/
namespace Go.DS
open Go
set_option linter.unusedVariables false
/-- A try. -/
structure Bal where
  no : Int
  node : Int
  deriving DecidableEq
/-- What is known of an instance. -/
structure Ins where
  st : Int
  pro : Bal
  vot : Bal
  cmd : Cmd
  att : Att
/-- Who votes. -/
structure Con where
  epoch : Int
  nodes : List Int
/-- A path of a directory; what a client was answered. -/
structure PEnt where
  path : Str
  value : Str
  ver : Int
structure PSes where
  client : Int
  seq : Int
  err : Int
  value : Str
  ver : Int
  names : List Str
structure Snp where
  con : Con
  paths : List PEnt
  sess : List PSes
structure Mes where
  kind : Int
  frm : Int
  to : Int
  id : Id
  bal : Bal
  ins : Ins
  snap : Snp
def cmd0 : Cmd := ⟨0, 0, 0, [], [], 0, 0, 0⟩
def bal0 : Bal := ⟨0, 0⟩
def att0 : Att := ⟨0, []⟩
def ins0 : Ins := ⟨0, ⟨0, 0⟩, ⟨0, 0⟩, ⟨0, 0, 0, [], [], 0, 0, 0⟩, ⟨0, []⟩⟩
def snp0 : Snp := ⟨⟨0, []⟩, [], []⟩
def lessB (a b : Bal) : Bool := if a.no = b.no then decide (a.node < b.node) else decide (a.no < b.no)
theorem lessB_iff {a b : Bal} : lessB a b = true ↔ a.no < b.no ∨ a.no = b.no ∧ a.node < b.node := by
  unfold lessB
  split
  · rename_i h; simp [h]
  · rename_i h; simp [h]
theorem lessB_irrefl (a : Bal) : lessB a a = false := by simp [lessB]
theorem lessB_asymm {a b : Bal} (h : lessB a b = true) : lessB b a = false := by
  rw [Bool.eq_false_iff]
  intro h2
  rw [lessB_iff] at h h2
  omega
def balB (b : Bal) : Bool := (decide (0 ≤ b.no) && decide (b.no ≤ 1099511627776)) && (decide (0 ≤ b.node) && decide (b.node ≤ 31))
/-- What a member knows. -/
structure Bk where
  node : Int
  con : Con
  m : List (Id × Ins)
def getB (b : Bk) (id : Id) : Ins := (aget id b.m).getD ins0
def setB (b : Bk) (id : Id) (x : Ins) : Bk := { b with m := aset id x b.m }
def idsB (b : Bk) : List Id := sortD (keys b.m)
def knoB (b : Bk) (id : Id) : Kno := ⟨id, (getB b id).cmd, (getB b id).att⟩
def knownB (b : Bk) : List Kno := ((idsB b).filter fun id => decide (1 ≤ (getB b id).st)).map (knoB b)
def memB (b : Bk) (n : Int) : Bool := decide (n ∈ b.con.nodes)
def rightB (b : Bk) (m : Mes) : Bool :=
  (decide (m.to = b.node) && memB b m.frm && memB b m.to && memB b m.id.n) && validI m.id && decide (m.id.e = b.con.epoch) && balB m.bal && balB m.ins.vot && validA m.id m.ins.att
def ansB (b : Bk) (m : Mes) (kind : Int) (x : Ins) : Mes := ⟨kind, b.node, m.frm, m.id, m.bal, x, snp0⟩
def keepB (b : Bk) (m : Mes) (kind : Int) (x : Ins) : List Mes × Bk := ([ansB b m kind x], setB b m.id x)
def preB (b : Bk) (m : Mes) (x : Ins) : List Mes × Bk :=
  if 1 ≤ x.st ∧ x.vot = m.bal then (if x.st ≠ 1 then ([], b) else ([ansB b m 1 x], b))
  else keepB b m 1 ⟨1, m.bal, m.bal, m.ins.cmd, mergeP m.ins.att (localP (knownB b) m.id m.ins.cmd)⟩
def acceptB (b : Bk) (m : Mes) (x : Ins) : List Mes × Bk := keepB b m 3 ⟨2, m.bal, m.bal, m.ins.cmd, m.ins.att⟩
def prepareB (b : Bk) (m : Mes) (x : Ins) : List Mes × Bk := keepB b m 6 { x with pro := m.bal }
def voteB (k : Int) : Bool := decide (k = 0) || decide (k = 2) || decide (k = 5)
def hearB (b : Bk) (m : Mes) : List Mes × Bk :=
  if rightB b m = false then ([], b)
  else if m.kind = 4 ∧ (getB b m.id).st ≠ 3 then ([], setB b m.id ⟨3, (getB b m.id).pro, m.ins.vot, m.ins.cmd, m.ins.att⟩)
  else if voteB m.kind = false then ([], b)
  else if (getB b m.id).st = 3 then ([ansB b m 4 (getB b m.id)], b)
  else if lessB m.bal (getB b m.id).pro = true then ([ansB b { m with bal := (getB b m.id).pro } 7 ins0], b)
  else if m.kind = 0 then preB b m (getB b m.id)
  else if m.kind = 2 then acceptB b m (getB b m.id)
  else prepareB b m (getB b m.id)
def hearAll (b : Bk) (l : List Mes) : Bk := l.foldl (fun b m => (hearB b m).2) b
theorem hearAll_snoc (b : Bk) (l : List Mes) (m : Mes) : hearAll b (l ++ [m]) = (hearB (hearAll b l) m).2 := by simp [hearAll]
theorem get_set (b : Bk) (id j : Id) (x : Ins) : getB (setB b id x) j = if j = id then x else getB b j := by
  unfold getB setB
  rw [aget_set]
  split <;> rfl
/-- What is kept of an entry, and of a book. -/
structure EntOK (n : Nat) (ep : Int) (e : Id × Ins) : Prop where
  path : e.2.cmd.path.length ≤ 300
  deps : e.2.att.deps.length ≤ 60 + n
  seq0 : 0 ≤ e.2.att.seq
  seq1 : e.2.att.seq ≤ 1099511627776 + n
  ep : e.1.e = ep
  st0 : 0 ≤ e.2.st
  st3 : e.2.st ≤ 3
  vot : e.2.st ≠ 3 → lessB e.2.pro e.2.vot = false
theorem EntOK.mono {n n' : Nat} {ep : Int} {e : Id × Ins} (h : EntOK n ep e) (hn : n ≤ n') : EntOK n' ep e :=
  ⟨h.path, by have := h.deps; omega, h.seq0, by have := h.seq1; omega, h.ep, h.st0, h.st3, h.vot⟩
structure BkOK (n : Nat) (b : Bk) : Prop where
  nodup : (keys b.m).Nodup
  len : b.m.length ≤ n
  each : ∀ e ∈ b.m, EntOK n b.con.epoch e
/-- A message that is looked at. -/
structure MesOK (m : Mes) : Prop where
  path : m.ins.cmd.path.length ≤ 300
  deps : m.ins.att.deps.length ≤ 60
theorem bkOK_new (node : Int) (c : Con) (n : Nat) : BkOK n ⟨node, c, []⟩ := ⟨by simp [keys], Nat.zero_le _, by simp⟩
theorem BkOK.mono {n n' : Nat} {b : Bk} (h : BkOK n b) (hn : n ≤ n') : BkOK n' b :=
  ⟨h.nodup, Nat.le_trans h.len hn, fun e he => (h.each e he).mono hn⟩
theorem mem_aset {κ α : Type} [DecidableEq κ] {k : κ} {v : α} {es : List (κ × α)} {e : κ × α} (h : e ∈ aset k v es) : e = (k, v) ∨ e ∈ es := by
  induction es with
  | nil => simp only [aset, List.mem_singleton] at h; exact .inl h
  | cons a es ih =>
    simp only [aset] at h
    split at h
    · rcases List.mem_cons.1 h with rfl | h
      · exact .inl rfl
      · exact .inr (List.mem_cons_of_mem _ h)
    · rcases List.mem_cons.1 h with rfl | h
      · exact .inr List.mem_cons_self
      · rcases ih h with h | h
        · exact .inl h
        · exact .inr (List.mem_cons_of_mem _ h)
theorem BkOK.set {n : Nat} {b : Bk} (h : BkOK n b) {id : Id} {x : Ins} (hx : EntOK (n + 1) b.con.epoch (id, x)) : BkOK (n + 1) (setB b id x) := by
  refine ⟨nodup_set h.nodup, ?_, fun e he => ?_⟩
  · show (aset id x b.m).length ≤ _
    rw [len_set]
    have := h.len
    split <;> omega
  · rcases mem_aset he with rfl | he
    · exact hx
    · exact (h.mono (Nat.le_succ n)).each e he
theorem get_of {n : Nat} {b : Bk} (h : BkOK n b) (id : Id) : (aget id b.m = none ∧ getB b id = ins0) ∨ (id, getB b id) ∈ b.m := by
  unfold getB
  cases hg : aget id b.m with
  | none => exact .inl ⟨rfl, rfl⟩
  | some x => exact .inr (aget_mem hg)
theorem get_ok {n : Nat} {b : Bk} (h : BkOK n b) {id : Id} (he : id.e = b.con.epoch) : EntOK n b.con.epoch (id, getB b id) := by
  rcases get_of h id with ⟨_, e⟩ | e
  · rw [e]; exact ⟨by simp [ins0], by simp [ins0], by simp [ins0], by simp [ins0]; omega, he, by simp [ins0], by simp [ins0], fun _ => rfl⟩
  · exact h.each _ e
theorem get_small {n : Nat} {b : Bk} (h : BkOK n b) (id : Id) : (getB b id).att.deps.length ≤ 60 + n ∧ (getB b id).cmd.path.length ≤ 300 := by
  rcases get_of h id with ⟨_, e⟩ | e
  · rw [e]; simp [ins0]
  · exact ⟨(h.each _ e).deps, (h.each _ e).path⟩
theorem get_st {n : Nat} {b : Bk} (h : BkOK n b) (id : Id) : 0 ≤ (getB b id).st ∧ (getB b id).st ≤ 3 ∧ ((getB b id).st ≠ 3 → lessB (getB b id).pro (getB b id).vot = false) := by
  rcases get_of h id with ⟨_, e⟩ | e
  · rw [e]; exact ⟨by simp [ins0], by simp [ins0], fun _ => rfl⟩
  · exact ⟨(h.each _ e).st0, (h.each _ e).st3, (h.each _ e).vot⟩
theorem idsB_len (b : Bk) : (idsB b).length = b.m.length := by unfold idsB; rw [sortD_len, keys_len]
theorem idsB_mem {b : Bk} {id : Id} : id ∈ idsB b ↔ id ∈ keys b.m := sortD_mem
theorem knownB_len (b : Bk) : (knownB b).length ≤ b.m.length := by
  unfold knownB
  rw [List.length_map, ← idsB_len b]
  exact List.length_filter_le ..
theorem knownB_ok {n : Nat} {b : Bk} (h : BkOK n b) : ∀ k ∈ knownB b, ∃ x, EntOK n b.con.epoch (k.id, x) ∧ k.cmd = x.cmd ∧ k.att = x.att := by
  intro k hk
  obtain ⟨id, hid, rfl⟩ := List.mem_map.1 hk
  have h1 := idsB_mem.1 (List.mem_filter.1 hid).1
  rcases get_of h id with ⟨e, _⟩ | e
  · exact absurd h1 (aget_none.1 e)
  · exact ⟨_, h.each _ e, rfl, rfl⟩
theorem local_ok {n : Nat} {b : Bk} (h : BkOK n b) (id : Id) (c : Cmd) : (localP (knownB b) id c).deps.length ≤ n ∧ 1 ≤ (localP (knownB b) id c).seq ∧ (localP (knownB b) id c).seq ≤ 1099511627776 + (n + 1 : Nat) := by
  have e : localP (knownB b) id c = ⟨((knownB b).filter (matters id c)).foldl (fun n x => max n x.att.seq) 0 + 1, cleanP (((knownB b).filter (matters id c)).map (·.id))⟩ := rfl
  have h1 := clean_len (((knownB b).filter (matters id c)).map (·.id))
  have h2 := List.length_filter_le (matters id c) (knownB b)
  have h3 := knownB_len b
  have h4 := h.len
  have h5 := (foldl_max_ge ((knownB b).filter (matters id c)) 0).1
  have h6 := foldl_max_le ((knownB b).filter (matters id c)) 0 (1099511627776 + n) (by omega) fun x hx => by
    obtain ⟨y, hy, _, e⟩ := knownB_ok h x (List.mem_filter.1 hx).1
    rw [e]; exact hy.seq1
  rw [List.length_map] at h1
  rw [e]
  dsimp only
  refine ⟨by omega, by omega, by omega⟩
theorem right_iff {b : Bk} {m : Mes} : rightB b m = true ↔ (m.to = b.node ∧ m.frm ∈ b.con.nodes ∧ m.to ∈ b.con.nodes ∧ m.id.n ∈ b.con.nodes) ∧ validI m.id = true ∧ m.id.e = b.con.epoch ∧ balB m.bal = true ∧ balB m.ins.vot = true ∧ validA m.id m.ins.att = true := by
  simp only [rightB, memB, Bool.and_eq_true, decide_eq_true_eq, and_assoc]
theorem hear_ok {n : Nat} {b : Bk} (h : BkOK n b) {m : Mes} (hm : MesOK m) : BkOK (n + 1) (hearB b m).2 := by
  have h' := h.mono (Nat.le_succ n)
  unfold hearB
  split
  · exact h'
  rename_i hr
  have hr : rightB b m = true := by simpa using hr
  obtain ⟨_, _, r3, _, _, r6⟩ := right_iff.1 hr
  obtain ⟨v1, v2, v3, v4⟩ := validA_iff.1 r6
  have h1 := hm.path
  have h2 := hm.deps
  split
  · exact h.set ⟨h1, by dsimp only; omega, v2.1, by dsimp only; omega, r3, by simp, by simp, fun e => (e rfl).elim⟩
  split
  · exact h'
  split
  · exact h'
  rename_i h3
  split
  · exact h'
  rename_i h4
  have h4 : lessB m.bal (getB b m.id).pro = false := by simpa using h4
  split
  · unfold preB
    split
    · split <;> exact h'
    · obtain ⟨l1, l2, l3⟩ := local_ok h m.id m.ins.cmd
      have l4 := merge_len m.ins.att (localP (knownB b) m.id m.ins.cmd)
      have l5 : (mergeP m.ins.att (localP (knownB b) m.id m.ins.cmd)).seq = max m.ins.att.seq (localP (knownB b) m.id m.ins.cmd).seq := rfl
      exact h.set ⟨h1, by dsimp only; omega, by dsimp only; omega, by dsimp only; omega, r3, by simp, by simp, fun _ => lessB_irrefl _⟩
  split
  · exact h.set ⟨h1, by dsimp only; omega, v2.1, by dsimp only; omega, r3, by simp, by simp, fun _ => lessB_irrefl _⟩
  · have g := (get_ok h r3).mono (Nat.le_succ n)
    refine h.set ⟨g.path, g.deps, g.seq0, g.seq1, r3, g.st0, g.st3, fun e => ?_⟩
    have g2 := g.vot e
    show lessB m.bal (getB b m.id).vot = false
    rw [Bool.eq_false_iff] at g2 h4 ⊢
    simp only [ne_eq, lessB_iff] at g2 h4 ⊢
    omega
theorem hear_con (b : Bk) (m : Mes) : (hearB b m).2.con = b.con ∧ (hearB b m).2.node = b.node := by
  unfold hearB preB acceptB prepareB keepB setB
  repeat' split
  all_goals exact ⟨rfl, rfl⟩
theorem hearAll_ok {b : Bk} {n : Nat} (h : BkOK n b) (l : List Mes) (hl : ∀ m ∈ l, MesOK m) : BkOK (n + l.length) (hearAll b l) := by
  induction l generalizing b n with
  | nil => exact h
  | cons m l ih =>
    have := ih (hear_ok h (hl m List.mem_cons_self)) fun x hx => hl x (List.mem_cons_of_mem _ hx)
    rw [List.length_cons, Nat.add_comm l.length 1, ← Nat.add_assoc]
    exact this
theorem hearAll_con (b : Bk) (l : List Mes) : (hearAll b l).con = b.con ∧ (hearAll b l).node = b.node := by
  induction l generalizing b with
  | nil => exact ⟨rfl, rfl⟩
  | cons m l ih =>
    obtain ⟨h1, h2⟩ := ih (hearB b m).2
    obtain ⟨h3, h4⟩ := hear_con b m
    exact ⟨h1.trans h3, h2.trans h4⟩
/-- What is heard of one instance is nothing to any other one. -/
theorem hear_other (b : Bk) (m : Mes) (j : Id) (h : j ≠ m.id) : getB (hearB b m).2 j = getB b j := by
  unfold hearB preB acceptB prepareB keepB
  repeat' split
  all_goals first | rfl | (rw [get_set, if_neg h])
theorem hear_len (b : Bk) (m : Mes) : (hearB b m).1.length ≤ 1 := by
  unfold hearB preB acceptB prepareB keepB
  repeat' split
  all_goals simp
theorem hear_wrong {b : Bk} {m : Mes} (h : rightB b m = false) : hearB b m = ([], b) := by unfold hearB; rw [if_pos h]
/-- What is asked again is answered again. -/
theorem hear_again (b : Bk) (m : Mes) : (hearB (hearB b m).2 m).1 = (hearB b m).1 ∧ getB (hearB (hearB b m).2 m).2 m.id = getB (hearB b m).2 m.id := by
  have hright : ∀ x, rightB (setB b m.id x) m = rightB b m := fun x => rfl
  by_cases c0 : rightB b m = false
  · rw [hear_wrong c0]
    rw [hear_wrong (b := b) c0]
    exact ⟨rfl, rfl⟩
  by_cases c1 : m.kind = 4 ∧ (getB b m.id).st ≠ 3
  · have e1 : hearB b m = ([], setB b m.id ⟨3, (getB b m.id).pro, m.ins.vot, m.ins.cmd, m.ins.att⟩) := by unfold hearB; rw [if_neg c0, if_pos c1]
    rw [e1]
    dsimp only
    have e2 : hearB (setB b m.id ⟨3, (getB b m.id).pro, m.ins.vot, m.ins.cmd, m.ins.att⟩) m = ([], setB b m.id ⟨3, (getB b m.id).pro, m.ins.vot, m.ins.cmd, m.ins.att⟩) := by
      have hv : voteB m.kind = false := by rw [c1.1]; rfl
      unfold hearB
      rw [hright, if_neg c0, if_neg (by rw [get_set, if_pos rfl]; simp), if_pos hv]
    rw [e2]
    exact ⟨rfl, rfl⟩
  by_cases c2 : voteB m.kind = false
  · have e1 : hearB b m = ([], b) := by unfold hearB; rw [if_neg c0, if_neg c1, if_pos c2]
    rw [e1]; dsimp only; rw [e1]; exact ⟨rfl, rfl⟩
  by_cases c3 : (getB b m.id).st = 3
  · have e1 : hearB b m = ([ansB b m 4 (getB b m.id)], b) := by unfold hearB; rw [if_neg c0, if_neg c1, if_neg c2, if_pos c3]
    rw [e1]; dsimp only; rw [e1]; exact ⟨rfl, rfl⟩
  by_cases c4 : lessB m.bal (getB b m.id).pro = true
  · have e1 : hearB b m = ([ansB b { m with bal := (getB b m.id).pro } 7 ins0], b) := by unfold hearB; rw [if_neg c0, if_neg c1, if_neg c2, if_neg c3, if_pos c4]
    rw [e1]; dsimp only; rw [e1]; exact ⟨rfl, rfl⟩
  have step : ∀ x : Ins, x.st ≠ 3 → x.pro = m.bal → hearB (setB b m.id x) m = if m.kind = 0 then preB (setB b m.id x) m x else if m.kind = 2 then acceptB (setB b m.id x) m x else prepareB (setB b m.id x) m x := fun x h1 h2 => by
    have g : getB (setB b m.id x) m.id = x := by rw [get_set, if_pos rfl]
    have n4 : ¬ (m.kind = 4 ∧ x.st ≠ 3) := by
      rintro ⟨e, _⟩
      rw [e] at c2
      exact c2 rfl
    unfold hearB
    rw [hright, if_neg c0, g, if_neg n4, if_neg c2, if_neg h1, h2, lessB_irrefl]
    simp only [Bool.false_eq_true, if_false]
  have e0 : hearB b m = if m.kind = 0 then preB b m (getB b m.id) else if m.kind = 2 then acceptB b m (getB b m.id) else prepareB b m (getB b m.id) := by
    unfold hearB; rw [if_neg c0, if_neg c1, if_neg c2, if_neg c3, if_neg c4]
  by_cases c5 : m.kind = 0
  · rw [if_pos c5] at e0
    by_cases c6 : 1 ≤ (getB b m.id).st ∧ (getB b m.id).vot = m.bal
    · have e1 : (hearB b m).2 = b := by rw [e0]; unfold preB; rw [if_pos c6]; split <;> rfl
      rw [e1]
      exact ⟨rfl, by rw [e1]⟩
    · generalize hz : mergeP m.ins.att (localP (knownB b) m.id m.ins.cmd) = z
      have e1 : hearB b m = keepB b m 1 ⟨1, m.bal, m.bal, m.ins.cmd, z⟩ := by rw [e0]; unfold preB; rw [if_neg c6, hz]
      have e2 := step ⟨1, m.bal, m.bal, m.ins.cmd, z⟩ (by simp) rfl
      rw [if_pos c5] at e2
      have e3 : preB (setB b m.id ⟨1, m.bal, m.bal, m.ins.cmd, z⟩) m ⟨1, m.bal, m.bal, m.ins.cmd, z⟩ = ([ansB b m 1 ⟨1, m.bal, m.bal, m.ins.cmd, z⟩], setB b m.id ⟨1, m.bal, m.bal, m.ins.cmd, z⟩) := by
        unfold preB
        rw [if_pos ⟨by simp, rfl⟩, if_neg (by simp)]
        rfl
      rw [e3] at e2
      rw [e1]
      show (hearB (setB b m.id _) m).1 = _ ∧ getB (hearB (setB b m.id _) m).2 _ = _
      rw [e2]
      exact ⟨rfl, rfl⟩
  · rw [if_neg c5] at e0
    by_cases c6 : m.kind = 2
    · rw [if_pos c6] at e0
      have e2 := step ⟨2, m.bal, m.bal, m.ins.cmd, m.ins.att⟩ (by simp) rfl
      rw [if_neg c5, if_pos c6] at e2
      rw [e0]
      show (hearB (setB b m.id _) m).1 = _ ∧ getB (hearB (setB b m.id _) m).2 _ = _
      rw [e2]
      refine ⟨rfl, ?_⟩
      show getB (setB (setB b m.id _) m.id _) m.id = getB (setB b m.id _) m.id
      rw [get_set, get_set, if_pos rfl, if_pos rfl]
    · rw [if_neg c6] at e0
      have e2 := step { getB b m.id with pro := m.bal } c3 rfl
      rw [if_neg c5, if_neg c6] at e2
      rw [e0]
      show (hearB (setB b m.id _) m).1 = _ ∧ getB (hearB (setB b m.id _) m).2 _ = _
      rw [e2]
      refine ⟨rfl, ?_⟩
      show getB (setB (setB b m.id _) m.id _) m.id = getB (setB b m.id _) m.id
      rw [get_set, get_set, if_pos rfl, if_pos rfl]
end Go.DS

/-
  Books: what the laws say, plain.
-/
namespace Go.DS
open Go
set_option linter.unusedVariables false
/-- What hearing comes to, case by case. -/
theorem hear_cases (b : Bk) (m : Mes) : (hearB b m = ([], b)) ∨
    (rightB b m = true ∧ (
      (m.kind = 4 ∧ (getB b m.id).st ≠ 3 ∧ hearB b m = ([], setB b m.id ⟨3, (getB b m.id).pro, m.ins.vot, m.ins.cmd, m.ins.att⟩)) ∨
      (voteB m.kind = true ∧ (
        ((getB b m.id).st = 3 ∧ hearB b m = ([ansB b m 4 (getB b m.id)], b)) ∨
        ((getB b m.id).st ≠ 3 ∧ (
          (lessB m.bal (getB b m.id).pro = true ∧ hearB b m = ([ansB b { m with bal := (getB b m.id).pro } 7 ins0], b)) ∨
          (lessB m.bal (getB b m.id).pro = false ∧ (
            (m.kind = 0 ∧ 1 ≤ (getB b m.id).st ∧ (getB b m.id).vot = m.bal ∧ hearB b m = ([ansB b m 1 (getB b m.id)], b)) ∨
            (m.kind = 0 ∧ ¬ (1 ≤ (getB b m.id).st ∧ (getB b m.id).vot = m.bal) ∧ hearB b m = keepB b m 1 ⟨1, m.bal, m.bal, m.ins.cmd, mergeP m.ins.att (localP (knownB b) m.id m.ins.cmd)⟩) ∨
            (m.kind = 2 ∧ hearB b m = keepB b m 3 ⟨2, m.bal, m.bal, m.ins.cmd, m.ins.att⟩) ∨
            (m.kind = 5 ∧ hearB b m = keepB b m 6 { getB b m.id with pro := m.bal }))))))))) := by
  by_cases c0 : rightB b m = false
  · exact .inl (hear_wrong c0)
  have c0' : rightB b m = true := by simpa using c0
  by_cases c1 : m.kind = 4 ∧ (getB b m.id).st ≠ 3
  · exact .inr ⟨c0', .inl ⟨c1.1, c1.2, by unfold hearB; rw [if_neg c0, if_pos c1]⟩⟩
  by_cases c2 : voteB m.kind = false
  · exact .inl (by unfold hearB; rw [if_neg c0, if_neg c1, if_pos c2])
  have c2' : voteB m.kind = true := by simpa using c2
  by_cases c3 : (getB b m.id).st = 3
  · exact .inr ⟨c0', .inr ⟨c2', .inl ⟨c3, by unfold hearB; rw [if_neg c0, if_neg c1, if_neg c2, if_pos c3]⟩⟩⟩
  by_cases c4 : lessB m.bal (getB b m.id).pro = true
  · exact .inr ⟨c0', .inr ⟨c2', .inr ⟨c3, .inl ⟨c4, by unfold hearB; rw [if_neg c0, if_neg c1, if_neg c2, if_neg c3, if_pos c4]⟩⟩⟩⟩
  have c4' : lessB m.bal (getB b m.id).pro = false := by simpa using c4
  have e0 : hearB b m = if m.kind = 0 then preB b m (getB b m.id) else if m.kind = 2 then acceptB b m (getB b m.id) else prepareB b m (getB b m.id) := by
    unfold hearB; rw [if_neg c0, if_neg c1, if_neg c2, if_neg c3, if_neg c4]
  by_cases c5 : m.kind = 0
  · rw [if_pos c5] at e0
    by_cases c6 : 1 ≤ (getB b m.id).st ∧ (getB b m.id).vot = m.bal
    · by_cases c7 : (getB b m.id).st ≠ 1
      · exact .inl (by rw [e0]; unfold preB; rw [if_pos c6, if_pos c7])
      · exact .inr ⟨c0', .inr ⟨c2', .inr ⟨c3, .inr ⟨c4', .inl ⟨c5, c6.1, c6.2, by rw [e0]; unfold preB; rw [if_pos c6, if_neg c7]⟩⟩⟩⟩⟩
    · exact .inr ⟨c0', .inr ⟨c2', .inr ⟨c3, .inr ⟨c4', .inr (.inl ⟨c5, c6, by rw [e0]; unfold preB; rw [if_neg c6]⟩)⟩⟩⟩⟩
  · rw [if_neg c5] at e0
    by_cases c6 : m.kind = 2
    · rw [if_pos c6] at e0
      exact .inr ⟨c0', .inr ⟨c2', .inr ⟨c3, .inr ⟨c4', .inr (.inr (.inl ⟨c6, e0⟩))⟩⟩⟩⟩
    · rw [if_neg c6] at e0
      have c7 : m.kind = 5 := by
        simp only [voteB, Bool.or_eq_true, decide_eq_true_eq] at c2'
        omega
      exact .inr ⟨c0', .inr ⟨c2', .inr ⟨c3, .inr ⟨c4', .inr (.inr (.inr ⟨c7, e0⟩))⟩⟩⟩⟩
theorem get_keep (b : Bk) (m : Mes) (k : Int) (x : Ins) : getB (keepB b m k x).2 m.id = x := by
  show getB (setB b m.id x) m.id = x
  rw [get_set, if_pos rfl]
/-- A promise never falls, what was decided stays. -/
theorem hear_rises {n : Nat} {b : Bk} (h : BkOK n b) (m : Mes) :
    lessB (getB (hearB b m).2 m.id).pro (getB b m.id).pro = false ∧ ((getB b m.id).st = 3 → getB (hearB b m).2 m.id = getB b m.id) ∧
    ((getB (hearB b m).2 m.id).st < (getB b m.id).st → (getB b m.id).st ≠ 3 ∧ m.kind = 0) := by
  obtain ⟨s1, s2, s3⟩ := get_st h m.id
  rcases hear_cases b m with e | ⟨_, ⟨k1, k2, e⟩ | ⟨_, ⟨k1, e⟩ | ⟨k1, ⟨k2, e⟩ | ⟨k2, ⟨k3, k4, k5, e⟩ | ⟨k3, k4, e⟩ | ⟨k3, e⟩ | ⟨k3, e⟩⟩⟩⟩⟩ <;> rw [e]
  · exact ⟨lessB_irrefl _, fun _ => rfl, fun h => by dsimp only at h; omega⟩
  · have g : getB (setB b m.id ⟨3, (getB b m.id).pro, m.ins.vot, m.ins.cmd, m.ins.att⟩) m.id = ⟨3, (getB b m.id).pro, m.ins.vot, m.ins.cmd, m.ins.att⟩ := by rw [get_set, if_pos rfl]
    dsimp only
    rw [g]
    exact ⟨lessB_irrefl _, fun h => absurd h k2, fun h => by dsimp only at h; omega⟩
  · exact ⟨lessB_irrefl _, fun _ => rfl, fun h => by dsimp only at h; omega⟩
  · exact ⟨lessB_irrefl _, fun _ => rfl, fun h => by dsimp only at h; omega⟩
  · exact ⟨lessB_irrefl _, fun _ => rfl, fun h => by dsimp only at h; omega⟩
  · rw [get_keep]
    exact ⟨k2, fun h => absurd h k1, fun h => ⟨k1, k3⟩⟩
  · rw [get_keep]
    exact ⟨k2, fun h => absurd h k1, fun h => by dsimp only at h; omega⟩
  · rw [get_keep]
    exact ⟨k2, fun h => absurd h k1, fun h => by dsimp only at h; omega⟩
/-- How an answer stands to what was asked. -/
theorem hear_answers {n : Nat} {b : Bk} (h : BkOK n b) (m : Mes) : ∀ o ∈ (hearB b m).1, o.frm = b.node ∧ o.to = m.frm ∧ o.id = m.id ∧
    ((o.kind = 1 ∨ o.kind = 3 ∨ o.kind = 6) → lessB m.bal (getB b m.id).pro = false ∧ (getB (hearB b m).2 m.id).pro = m.bal ∧ o.bal = m.bal) := by
  obtain ⟨s1, s2, s3⟩ := get_st h m.id
  rcases hear_cases b m with e | ⟨_, ⟨k1, k2, e⟩ | ⟨_, ⟨k1, e⟩ | ⟨k1, ⟨k2, e⟩ | ⟨k2, ⟨k3, k4, k5, e⟩ | ⟨k3, k4, e⟩ | ⟨k3, e⟩ | ⟨k3, e⟩⟩⟩⟩⟩ <;> rw [e]
  · simp
  · simp
  · intro o ho
    rw [List.mem_singleton.1 ho]
    exact ⟨rfl, rfl, rfl, fun h => by simp [ansB] at h⟩
  · intro o ho
    rw [List.mem_singleton.1 ho]
    exact ⟨rfl, rfl, rfl, fun h => by simp [ansB] at h⟩
  · intro o ho
    rw [List.mem_singleton.1 ho]
    refine ⟨rfl, rfl, rfl, fun _ => ⟨k2, ?_, rfl⟩⟩
    have g := s3 k1
    rw [k5] at g
    show (getB b m.id).pro = m.bal
    rw [Bool.eq_false_iff] at k2 g
    simp only [ne_eq, lessB_iff] at k2 g
    cases hp : (getB b m.id).pro
    cases hb : m.bal
    rw [hp, hb] at k2 g
    dsimp only at k2 g
    congr 1 <;> omega
  · intro o ho
    rw [List.mem_singleton.1 ho, get_keep]
    exact ⟨rfl, rfl, rfl, fun _ => ⟨k2, rfl, rfl⟩⟩
  · intro o ho
    rw [List.mem_singleton.1 ho, get_keep]
    exact ⟨rfl, rfl, rfl, fun _ => ⟨k2, rfl, rfl⟩⟩
  · intro o ho
    rw [List.mem_singleton.1 ho, get_keep]
    exact ⟨rfl, rfl, rfl, fun _ => ⟨k2, rfl, rfl⟩⟩
/-- Behind a promise no lesser ballot is voted for. -/
theorem hear_promise {b : Bk} {p m : Mes} (hk : p.kind = 5) (h6 : ∀ o ∈ (hearB b p).1, o.kind = 6) (hl : (hearB b p).1.length = 1) (hid : m.id = p.id) (hlt : lessB m.bal p.bal = true) (hr : rightB (hearB b p).2 m = true) :
    (voteB m.kind = false → (hearB (hearB b p).2 m).1 = []) ∧
    (voteB m.kind = true → hearB (hearB b p).2 m = ([ansB (hearB b p).2 { m with bal := p.bal } 7 ins0], (hearB b p).2)) := by
  have key : (getB (hearB b p).2 p.id).st ≠ 3 ∧ (getB (hearB b p).2 p.id).pro = p.bal := by
    rcases hear_cases b p with e | ⟨_, ⟨k1, k2, e⟩ | ⟨_, ⟨k1, e⟩ | ⟨k1, ⟨k2, e⟩ | ⟨k2, ⟨k3, k4, k5, e⟩ | ⟨k3, k4, e⟩ | ⟨k3, e⟩ | ⟨k3, e⟩⟩⟩⟩⟩ <;> rw [e] at h6 hl ⊢
    · simp at hl
    · omega
    · have := h6 _ List.mem_cons_self; simp [ansB] at this
    · have := h6 _ List.mem_cons_self; simp [ansB] at this
    · omega
    · omega
    · omega
    · rw [get_keep]; exact ⟨k1, rfl⟩
  rw [← hid] at key
  generalize (hearB b p).2 = b' at *
  constructor
  · intro hv
    unfold hearB
    rw [hr, if_neg (by simp)]
    split
    · rfl
    · simp [hv]
  · intro hv
    have n4 : ¬ (m.kind = 4 ∧ (getB b' m.id).st ≠ 3) := by
      rintro ⟨e, _⟩
      rw [e] at hv
      exact absurd hv (by decide)
    unfold hearB
    rw [hr, if_neg (by simp), if_neg n4, if_neg (by rw [hv]; simp), if_neg key.1, key.2, if_pos hlt]
/-- Two that ask by unlike ballots. -/
theorem hear_ballots {k : Bk} {a b : Mes} (ha : a.kind = 2) (hb : b.kind = 2) (ra : rightB k a = true) (rb : rightB k b = true) (hid : b.id = a.id) (hst : (getB k a.id).st ≠ 3) (h1 : lessB a.bal (getB k a.id).pro = false) (h2 : lessB a.bal b.bal = true) :
    ∃ k1 k2, hearB k a = ([ansB k a 3 ⟨2, a.bal, a.bal, a.ins.cmd, a.ins.att⟩], k1) ∧ hearB k1 b = ([ansB k b 3 ⟨2, b.bal, b.bal, b.ins.cmd, b.ins.att⟩], k2) ∧
      hearB k2 a = ([ansB k { a with bal := b.bal } 7 ins0], k2) ∧ getB k2 a.id = ⟨2, b.bal, b.bal, b.ins.cmd, b.ins.att⟩ := by
  have step : ∀ (k : Bk) (m : Mes), m.kind = 2 → rightB k m = true → (getB k m.id).st ≠ 3 → lessB m.bal (getB k m.id).pro = false → hearB k m = keepB k m 3 ⟨2, m.bal, m.bal, m.ins.cmd, m.ins.att⟩ := fun k m hm hr h3 hl => by
    unfold hearB
    rw [hr, if_neg (by simp), if_neg (by omega), if_neg (by rw [hm]; decide), if_neg h3, hl, if_neg (by simp), if_neg (by omega), if_pos hm]
    rfl
  have e1 := step k a ha ra hst h1
  have g1 : getB (setB k a.id ⟨2, a.bal, a.bal, a.ins.cmd, a.ins.att⟩) a.id = ⟨2, a.bal, a.bal, a.ins.cmd, a.ins.att⟩ := by rw [get_set, if_pos rfl]
  have e2 := step (setB k a.id ⟨2, a.bal, a.bal, a.ins.cmd, a.ins.att⟩) b hb rb (by rw [hid, g1]; simp) (by rw [hid, g1]; exact lessB_asymm h2)
  have g2 : getB (setB (setB k a.id ⟨2, a.bal, a.bal, a.ins.cmd, a.ins.att⟩) b.id ⟨2, b.bal, b.bal, b.ins.cmd, b.ins.att⟩) a.id = ⟨2, b.bal, b.bal, b.ins.cmd, b.ins.att⟩ := by rw [get_set, if_pos hid.symm]
  refine ⟨_, _, e1, e2, ?_, g2⟩
  generalize hk2 : setB (setB k a.id ⟨2, a.bal, a.bal, a.ins.cmd, a.ins.att⟩) b.id ⟨2, b.bal, b.bal, b.ins.cmd, b.ins.att⟩ = k2 at g2
  have ra2 : rightB k2 a = true := by rw [← hk2]; exact ra
  have en : k2.node = k.node := by rw [← hk2]; rfl
  show hearB k2 a = _
  unfold hearB
  rw [ra2, if_neg (by simp), if_neg (by omega), if_neg (by rw [ha]; decide), g2, if_neg (by simp), if_pos h2]
  unfold ansB
  rw [en]
/-- Two books that know the same. -/
structure SameB (a b : Bk) : Prop where
  node : a.node = b.node
  con : a.con = b.con
  get : ∀ id, aget id a.m = aget id b.m
  na : (keys a.m).Nodup
  nb : (keys b.m).Nodup
theorem SameB.getB {a b : Bk} (h : SameB a b) (id : Id) : getB a id = getB b id := by unfold DS.getB; rw [h.get]
theorem SameB.idsB {a b : Bk} (h : SameB a b) : idsB a = idsB b := by
  unfold DS.idsB
  refine sortD_perm ?_
  rw [List.perm_ext_iff_of_nodup h.na h.nb]
  intro id
  rw [← aget_iff, ← aget_iff, h.get]
theorem SameB.knownB {a b : Bk} (h : SameB a b) : knownB a = knownB b := by
  unfold DS.knownB
  have e1 : (fun id => decide (1 ≤ (DS.getB a id).st)) = fun id => decide (1 ≤ (DS.getB b id).st) := by funext id; rw [h.getB]
  have e2 : knoB a = knoB b := by funext id; unfold knoB; rw [h.getB]
  rw [h.idsB, e1, e2]
theorem SameB.set {a b : Bk} (h : SameB a b) (id : Id) (x : Ins) : SameB (setB a id x) (setB b id x) :=
  ⟨h.node, h.con, fun j => by show aget j (aset id x a.m) = aget j (aset id x b.m); rw [aget_set, aget_set, h.get], nodup_set h.na, nodup_set h.nb⟩
theorem SameB.hear {a b : Bk} (h : SameB a b) (m : Mes) : (hearB a m).1 = (hearB b m).1 ∧ SameB (hearB a m).2 (hearB b m).2 := by
  have er : rightB a m = rightB b m := by unfold rightB memB; rw [h.node, h.con]
  have ea : ∀ m k x, ansB a m k x = ansB b m k x := fun m k x => by unfold ansB; rw [h.node]
  unfold hearB preB acceptB prepareB keepB
  rw [er, h.getB, h.knownB]
  simp only [ea]
  repeat' split
  all_goals first | exact ⟨rfl, h⟩ | exact ⟨rfl, h.set _ _⟩
/-- A book that is set as another one is. -/
def setAll (a : Bk) (b : Bk) (l : List Id) : Bk := l.foldl (fun b id => setB b id (getB a id)) b
theorem setAll_snoc (a b : Bk) (l : List Id) (x : Id) : setAll a b (l ++ [x]) = setB (setAll a b l) x (getB a x) := by simp [setAll]
theorem setAll_get (a b : Bk) (l : List Id) (j : Id) : aget j (setAll a b l).m = if j ∈ l then some (getB a j) else aget j b.m := by
  induction l generalizing b with
  | nil => simp [setAll]
  | cons x l ih =>
    show aget j (setAll a (setB b x (getB a x)) l).m = _
    rw [ih]
    show (if j ∈ l then some (getB a j) else aget j (aset x (getB a x) b.m)) = _
    rw [aget_set]
    by_cases h1 : j ∈ l
    · simp [h1]
    · by_cases h2 : j = x
      · subst h2; simp
      · simp [h1, h2]
theorem setAll_nodup (a b : Bk) (l : List Id) (h : (keys b.m).Nodup) : (keys (setAll a b l).m).Nodup := by
  induction l generalizing b with
  | nil => exact h
  | cons x l ih => exact ih _ (nodup_set h)
theorem setAll_con (a b : Bk) (l : List Id) : (setAll a b l).con = b.con ∧ (setAll a b l).node = b.node := by
  induction l generalizing b with
  | nil => exact ⟨rfl, rfl⟩
  | cons x l ih => exact ih _
theorem setAll_same (a : Bk) (h : (keys a.m).Nodup) : SameB (setAll a ⟨a.node, a.con, []⟩ (idsB a)) a := by
  obtain ⟨h1, h2⟩ := setAll_con a ⟨a.node, a.con, []⟩ (idsB a)
  refine ⟨h2, h1, fun j => ?_, setAll_nodup _ _ _ (by simp [keys]), h⟩
  rw [setAll_get]
  by_cases hj : j ∈ idsB a
  · rw [if_pos hj]
    have := aget_iff.2 (idsB_mem.1 hj)
    unfold getB
    cases hg : aget j a.m with
    | none => rw [hg] at this; cases this
    | some x => rfl
  · rw [if_neg hj]
    have : aget j a.m = none := aget_none.2 fun hk => hj (idsB_mem.2 hk)
    rw [this]
    rfl
theorem setAll_ok {n : Nat} {a b : Bk} (ha : BkOK n a) (hb : BkOK 0 b) (hc : b.con = a.con) (l : List Id) (hl : ∀ x ∈ l, x ∈ keys a.m) (hn : l.length ≤ n) : BkOK (n + n) (setAll a b l) := by
  have key : ∀ (l : List Id) (b : Bk) (k : Nat), BkOK (n + k) b → b.con = a.con → (∀ x ∈ l, x ∈ keys a.m) → BkOK (n + k + l.length) (setAll a b l) := by
    intro l
    induction l with
    | nil => intro b k h _ _; exact h
    | cons x l ih =>
      intro b k h hc hl
      have hx : EntOK n a.con.epoch (x, getB a x) := by
        rcases get_of ha x with ⟨e, _⟩ | e
        · exact absurd (hl x List.mem_cons_self) (aget_none.1 e)
        · exact ha.each _ e
      have h2 := h.set (id := x) (x := getB a x) (by rw [hc]; exact hx.mono (by omega))
      have h3 := ih (setB b x (getB a x)) (k + 1) (by rw [← Nat.add_assoc]; exact h2) hc fun y hy => hl y (List.mem_cons_of_mem _ hy)
      rw [List.length_cons]
      refine h3.mono (by omega)
  exact (key l b 0 (hb.mono (Nat.zero_le _)) hc hl).mono (by omega)
/-- Who votes for an instance tells all that matters to it. -/
theorem hear_sees {n : Nat} {b : Bk} (h : BkOK n b) {m : Mes} (hk : m.kind = 0) {o : Mes} (ho : (hearB b m).1 = [o]) (h1 : o.kind = 1) (hw : ¬ (1 ≤ (getB b m.id).st ∧ (getB b m.id).vot = m.bal)) :
    o.ins.att = mergeP m.ins.att (localP (knownB b) m.id m.ins.cmd) ∧ o.ins.cmd = m.ins.cmd ∧ m.id ∉ o.ins.att.deps ∧ m.ins.att.seq ≤ o.ins.att.seq ∧ rightI o.ins.att.deps = true ∧
    (∀ x ∈ m.ins.att.deps, x ∈ o.ins.att.deps) ∧ ∀ k ∈ knownB b, k.id ≠ m.id → bothB k.cmd m.ins.cmd = true → k.id ∈ o.ins.att.deps ∧ k.att.seq < o.ins.att.seq := by
  have hr : rightB b m = true := by
    cases hr : rightB b m with
    | true => rfl
    | false => rw [hear_wrong hr] at ho; cases ho
  obtain ⟨_, _, r3, _, _, r6⟩ := right_iff.1 hr
  obtain ⟨v1, _⟩ := validA_iff.1 r6
  have he : o = ansB b m 1 ⟨1, m.bal, m.bal, m.ins.cmd, mergeP m.ins.att (localP (knownB b) m.id m.ins.cmd)⟩ := by
    rcases hear_cases b m with e | ⟨_, ⟨k1, k2, e⟩ | ⟨_, ⟨k1, e⟩ | ⟨k1, ⟨k2, e⟩ | ⟨k2, ⟨k3, k4, k5, e⟩ | ⟨k3, k4, e⟩ | ⟨k3, e⟩ | ⟨k3, e⟩⟩⟩⟩⟩ <;> rw [e] at ho
    · cases ho
    · omega
    · cases ho; simp [ansB] at h1
    · cases ho; simp [ansB] at h1
    · exact absurd ⟨k4, k5⟩ hw
    · cases ho; rfl
    · omega
    · omega
  subst he
  refine ⟨rfl, rfl, ?_, Int.le_max_left _ _, merge_right _ _, fun x hx => merge_mem.2 (.inl hx), fun k hk hne hb => ?_⟩
  · intro hx
    rcases merge_mem.1 hx with hx | hx
    · exact (v1 _ hx).1 rfl
    · have hx : m.id ∈ cleanP (((knownB b).filter (matters m.id m.ins.cmd)).map (·.id)) := hx
      rw [clean_mem] at hx
      obtain ⟨k, hk, e⟩ := List.mem_map.1 hx
      have := (List.mem_filter.1 hk).2
      simp only [matters, Bool.and_eq_true, decide_eq_true_eq] at this
      exact this.1.1 e
  · obtain ⟨x, hx, _, _⟩ := knownB_ok h k hk
    have hm : matters m.id m.ins.cmd k = true := by
      simp only [matters, Bool.and_eq_true, decide_eq_true_eq]
      exact ⟨⟨hne, by rw [hx.ep, r3]⟩, hb⟩
    have hin := List.mem_filter.2 ⟨hk, hm⟩
    constructor
    · refine merge_mem.2 (.inr ?_)
      show k.id ∈ cleanP _
      rw [clean_mem]
      exact List.mem_map_of_mem hin
    · have := (foldl_max_ge ((knownB b).filter (matters m.id m.ins.cmd)) 0).2 k hin
      show k.att.seq < max m.ins.att.seq (_ + 1)
      omega
end Go.DS

/-
  Walks: configurations, ballots, books.
-/
namespace Go.DS
open Go Go.Proofs
set_option maxRecDepth 100000
set_option linter.unusedVariables false
set_option linter.unusedSimpArgs false
@[go_sem] theorem ok59 : calleeOK Tryz.prog 59 = true := by kernel_rfl
@[go_sem] theorem ex59 : (cfg.ext 59).isSome = true := rfl
@[go_sem] theorem ok49 : calleeOK Tryz.prog 49 = true := by kernel_rfl
@[go_sem] theorem ex49 : (cfg.ext 49).isSome = true := rfl
@[go_sem] theorem ok22 : calleeOK Tryz.prog 22 = true := by kernel_rfl
@[go_sem] theorem ex22 : (cfg.ext 22).isSome = true := rfl
def cd80 : Cd := .seq (R [c0 4 (.tk (.c (ki .i64 0)))] [0, 1]) (.seq (.seq (R [c0 6 (.mv (.s 0)), c0 7 (.len 1 (.s 6)), c0 8 (.mv (.c (ki .i64 0)))] [0, 1, 7, 8]) (.block 0 (LP [0, 1, 7, 8] (.seq (R [c0 9 (.bin .lss .any (.s 8) (.s 7))] [0, 1, 7, 8, 9]) (.seq (.ite (.s 9) (.skip) (.exit 0)) (.seq (.block 1 (.seq (R [c0 10 (.mv (.s 8)), c0 5 (.tk (.s 10))] [0, 1, 5, 7, 8]) (.seq (R [c0 11 (.mv (.s 1)), c0 12 (.mv (.s 0)), c0 13 (.mv (.s 5)), c0 14 (.ixp 1 (.s 12) (.s 13)), c0 15 (.ld false 1 (.s 14)), cb 16 (.bin .eql .any (.s 11) (.s 15))] [0, 1, 5, 7, 8, 16]) (.ite (.s 16) (.seq (R [c0 17 (.mv (.s 5)), c0 4 (.tk (.s 17))] [4]) (.ret)) (.skip))))) (R [c0 18 (.bin .add .any (.s 8) (.c (ki .i64 1))), c0 8 (.mv (.s 18))] [0, 1, 7, 8]))))))) (.seq (R [c0 4 (.tk (.c (ki .i64 (-1))))] [4]) (.ret)))
theorem fun80 : Fun Tryz.prog cfg 80 19 cd80 [.s 4] := ⟨rfl, Tryz.f80, _, Tryz.func80, rfl, rfl, by kernel_rfl, by kernel_rfl⟩
@[go_sem] theorem ok80 : calleeOK Tryz.prog 80 = true := by kernel_rfl
@[go_sem] theorem ex80 : (cfg.ext 80).isSome = false := rfl
def cd62 : Cd := .seq (R [cb 4 (.tk (.c (kb false)))] [0, 1]) (.seq (R [c0 5 (.mv (.s 0)), c0 6 (.mv (.s 1)), c0 7 (.call none (.c (kf 80)) [(.s 5), (.s 6)]), cb 8 (.bin .geq .any (.s 7) (.c (ki .i64 0))), cb 4 (.tk (.s 8))] [4]) (.ret))
theorem fun62 : Fun Tryz.prog cfg 62 9 cd62 [.s 4] := ⟨rfl, Tryz.f62, _, Tryz.func62, rfl, rfl, by kernel_rfl, by kernel_rfl⟩
@[go_sem] theorem ok62 : calleeOK Tryz.prog 62 = true := by kernel_rfl
@[go_sem] theorem ex62 : (cfg.ext 62).isSome = false := rfl
def cd39 : Cd := .seq (R [c0 2 (.new false (.s 0)), cb 4 (.tk (.c (kb false)))] [1, 2]) (.seq (R [c0 5 (.mov 1 (.s 2)), c0 6 (.ld false 3 (.s 5)), c0 7 (.mv (.s 1)), cb 8 (.call none (.c (kf 62)) [(.s 6), (.s 7)]), cb 4 (.tk (.s 8))] [2, 4]) (.ret))
theorem fun39 : Fun Tryz.prog cfg 39 9 cd39 [.s 4] := ⟨rfl, Tryz.f39, _, Tryz.func39, rfl, rfl, by kernel_rfl, by kernel_rfl⟩
@[go_sem] theorem ok39 : calleeOK Tryz.prog 39 = true := by kernel_rfl
@[go_sem] theorem ex39 : (cfg.ext 39).isSome = false := rfl
def cd33 : Cd := .seq (R [c0 1 (.new false (.s 0)), c0 2 (.new false (.c (.agg [ki .i64 0, kn 1])))] [1, 2]) (.seq (RD [cd (some 3) false none (.mov 0 (.s 1)) false false [1], cd (some 4) false none (.ld false 1 (.s 3)) false false [3], cd (some 5) false none (.mov 1 (.s 1)) false false [1], cd (some 6) false none (.ld false 3 (.s 5)) false false [5], cd (some 7) false none (.call none (.c (kf 59)) [(.s 6)]) false false [6], cd (some 8) false none (.bld [ki .i64 0, kz 1] [(0, 1, (.s 4)), (1, 1, (.s 7))]) false false [4, 7], cd none false none (.st 2 (.s 2) (.s 8)) false false [2, 8]] [1, 2] [6]) (.ret))
theorem fun33 : Fun Tryz.prog cfg 33 9 cd33 [.b 2 true 2] := ⟨rfl, Tryz.f33, _, Tryz.func33, rfl, rfl, by kernel_rfl, by kernel_rfl⟩
@[go_sem] theorem ok33 : calleeOK Tryz.prog 33 = true := by kernel_rfl
@[go_sem] theorem ex33 : (cfg.ext 33).isSome = false := rfl
def cd26 : Cd := .seq (R [c0 2 (.new false (.s 0)), c0 3 (.new false (.s 1)), cb 4 (.tk (.c (kb false)))] [2, 3]) (.seq (.seq (R [c0 5 (.mov 0 (.s 2)), c0 6 (.ld false 1 (.s 5)), c0 7 (.mov 0 (.s 3)), c0 8 (.ld false 1 (.s 7)), cb 9 (.bin .eql .any (.s 6) (.s 8))] [2, 3, 9]) (.ite (.s 9) (.seq (R [c0 10 (.mov 1 (.s 2)), c0 11 (.ld false 1 (.s 10)), c0 12 (.mov 1 (.s 3)), c0 13 (.ld false 1 (.s 12)), cb 14 (.bin .lss .any (.s 11) (.s 13)), cb 4 (.tk (.s 14))] [2, 3, 4]) (.ret)) (.skip))) (.seq (R [c0 15 (.mov 0 (.s 2)), c0 16 (.ld false 1 (.s 15)), c0 17 (.mov 0 (.s 3)), c0 18 (.ld false 1 (.s 17)), cb 19 (.bin .lss .any (.s 16) (.s 18)), cb 4 (.tk (.s 19))] [2, 3, 4]) (.ret)))
theorem fun26 : Fun Tryz.prog cfg 26 20 cd26 [.s 4] := ⟨rfl, Tryz.f26, _, Tryz.func26, rfl, rfl, by kernel_rfl, by kernel_rfl⟩
@[go_sem] theorem ok26 : calleeOK Tryz.prog 26 = true := by kernel_rfl
@[go_sem] theorem ex26 : (cfg.ext 26).isSome = false := rfl
def cd64 : Cd := .seq (R [cb 4 (.tk (.c (kb false)))] [0, 1]) (.seq (R [c0 5 (.mv (.s 0)), cb 6 (.bin .leq .any (.c (ki .i64 0)) (.s 5)), cb 7 (.mv (.s 6)), cg 8 7 true (.mv (.s 0)), cg 9 7 true (.mv (.s 1)), ch 10 7 true (.bin .leq .any (.s 8) (.s 9)), cb 11 (.pick (.s 7) (.s 10) (.c (kb false))), cb 4 (.tk (.s 11))] [4]) (.ret))
theorem fun64 : Fun Tryz.prog cfg 64 12 cd64 [.s 4] := ⟨rfl, Tryz.f64, _, Tryz.func64, rfl, rfl, by kernel_rfl, by kernel_rfl⟩
@[go_sem] theorem ok64 : calleeOK Tryz.prog 64 = true := by kernel_rfl
@[go_sem] theorem ex64 : (cfg.ext 64).isSome = false := rfl
def cd41 : Cd := .seq (R [c0 1 (.new false (.s 0)), cb 2 (.tk (.c (kb false)))] [1]) (.seq (R [c0 3 (.tk (.c (kf 64)))] [1, 3]) (.seq (R [c0 4 (.mv (.s 3)), c0 5 (.mov 0 (.s 1)), c0 6 (.ld false 1 (.s 5)), cb 7 (.call none (.s 4) [(.s 6), (.c (ki .i64 1099511627776))]), cb 8 (.mv (.s 7)), cg 9 8 true (.mv (.s 3)), cg 10 8 true (.mov 1 (.s 1)), cg 11 8 true (.ld false 1 (.s 10)), ch 12 8 true (.call none (.s 9) [(.s 11), (.c (ki .i64 31))]), cb 13 (.pick (.s 8) (.s 12) (.c (kb false))), cb 2 (.tk (.s 13))] [1, 2]) (.ret)))
theorem fun41 : Fun Tryz.prog cfg 41 14 cd41 [.s 2] := ⟨rfl, Tryz.f41, _, Tryz.func41, rfl, rfl, by kernel_rfl, by kernel_rfl⟩
@[go_sem] theorem ok41 : calleeOK Tryz.prog 41 = true := by kernel_rfl
@[go_sem] theorem ex41 : (cfg.ext 41).isSome = false := rfl
def cd13 : Cd := .seq (R [c0 3 (.new false (.s 1)), c0 4 (.tk (.c (.sc (.pointer none))))] [0, 3, 10]) (.seq (R [c0 5 (.mv (.s 0)), c0 6 (.ld true 2 (.s 3)), c0 7 (.call none (.c (kf 33)) [(.s 6)]), c0 8 (.mkm), c0 9 (.bld [ki .i64 0, ki .i64 0, kz 1, .sc (.map none)] [(0, 1, (.s 5)), (1, 2, (.s 7)), (3, 1, (.s 8))]), c0 10 (.new true (.s 9)), c0 4 (.tk (.s 10))] [3, 4, 10]) (.ret))
theorem fun13 : Fun Tryz.prog cfg 13 11 cd13 [.s 4] := ⟨rfl, Tryz.f13, _, Tryz.func13, rfl, rfl, by kernel_rfl, by kernel_rfl⟩
@[go_sem] theorem ok13 : calleeOK Tryz.prog 13 = true := by kernel_rfl
@[go_sem] theorem ex13 : (cfg.ext 13).isSome = false := rfl
def cd20 : Cd := .seq (R [c0 3 (.new false (.s 1)), c0 4 (.new false (.c (.agg [ki .i64 0, ki .i64 0, ki .i64 0, ki .i64 0, ki .i64 0, ki .i64 0, ki .i64 0, ki .i64 0, ks [], ks [], ki .i64 0, ki .i64 0, ki .i64 0, ki .i64 0, kn 3])))] [0, 3, 4, 5]) (.seq (RD [cd (some 6) false none (.mv (.s 0)) false false [0], cd (some 7) false none (.mov 0 (.s 6)) false false [6], cd (some 8) false none (.mov 3 (.s 7)) false false [7], cd (some 9) false none (.ld false 1 (.s 8)) false false [8], cd (some 10) false none (.ld true 3 (.s 3)) false false [3], cd (some 11) false none (.lkp [0, 0, 0] true 3 (.agg [ki .i64 0, ki .i64 0, ki .i64 0, ki .i64 0, ki .i64 0, ki .i64 0, ki .i64 0, ki .i64 0, ks [], ks [], ki .i64 0, ki .i64 0, ki .i64 0, ki .i64 0, kn 3]) false (.s 9) (.s 10)) false false [9, 10], cd (some 5) false none (.new false (.c (.agg [ki .i64 0, ki .i64 0, ki .i64 0, ki .i64 0, ki .i64 0, ki .i64 0, ki .i64 0, ki .i64 0, ks [], ks [], ki .i64 0, ki .i64 0, ki .i64 0, ki .i64 0, kn 3]))) true false [], cd none false none (.st 15 (.s 5) (.s 11)) false false [5, 11]] [3, 4, 5] []) (.seq (R [c0 12 (.mov 13 (.s 5)), c0 13 (.mov 1 (.s 12)), c0 14 (.ld false 5 (.s 13)), c0 15 (.call none (.c (kf 49)) [(.s 14)]), c0 16 (.mov 13 (.s 5)), c0 17 (.mov 1 (.s 16)), cn (.st 1 (.s 17) (.s 15))] [3, 4, 5]) (.seq (R [c0 18 (.ld true 15 (.s 5)), cn (.st 15 (.s 4) (.s 18))] [3, 4, 5]) (.ret))))
theorem fun20 : Fun Tryz.prog cfg 20 19 cd20 [.b 4 true 15] := ⟨rfl, Tryz.f20, _, Tryz.func20, rfl, rfl, by kernel_rfl, by kernel_rfl⟩
@[go_sem] theorem ok20 : calleeOK Tryz.prog 20 = true := by kernel_rfl
@[go_sem] theorem ex20 : (cfg.ext 20).isSome = false := rfl
def cd27 : Cd := .seq (R [c0 4 (.new false (.s 1)), c0 5 (.new false (.s 2))] [0, 4, 5]) (.seq (R [c0 6 (.mov 13 (.s 5)), c0 7 (.mov 1 (.s 6)), c0 8 (.ld false 5 (.s 7)), c0 9 (.call none (.c (kf 49)) [(.s 8)]), c0 10 (.mov 13 (.s 5)), c0 11 (.mov 1 (.s 10)), cn (.st 1 (.s 11) (.s 9))] [0, 4, 5]) (RD [cd (some 12) false none (.mv (.s 0)) false false [0], cd (some 13) false none (.mov 0 (.s 12)) false false [12], cd (some 14) false none (.mov 3 (.s 13)) false false [13], cd (some 15) false none (.ld false 1 (.s 14)) false false [14], cd (some 16) false none (.ld true 3 (.s 4)) false false [4], cd (some 17) false none (.ld true 15 (.s 5)) false false [5], cd none false none (.mup [0, 0, 0] true 3 (.s 15) (.s 16) (.s 17)) false false [15, 16, 17]] [4, 5] []))
theorem fun27 : Fun Tryz.prog cfg 27 18 cd27 [] := ⟨rfl, Tryz.f27, _, Tryz.func27, rfl, rfl, by kernel_rfl, by kernel_rfl⟩
@[go_sem] theorem ok27 : calleeOK Tryz.prog 27 = true := by kernel_rfl
@[go_sem] theorem ex27 : (cfg.ext 27).isSome = false := rfl
def cd23 : Cd := .seq (R [c0 2 (.tk (.c (kn 13)))] [0, 5, 6]) (.seq (R [c0 3 (.tk (.c (kn 13)))] [0, 3, 5, 6]) (.seq (.seq (R [c0 7 (.mv (.s 0)), c0 8 (.call none (.c (kf 22)) [(.s 7)]), c0 9 (.len 1 (.s 8)), c0 10 (.mv (.c (ki .i64 0)))] [0, 3, 5, 6, 8, 9, 10]) (.block 0 (LP [0, 3, 5, 6, 8, 9, 10] (.seq (R [c0 11 (.bin .lss .any (.s 10) (.s 9))] [0, 3, 5, 6, 8, 9, 10, 11]) (.seq (.ite (.s 11) (.skip) (.exit 0)) (.seq (.block 1 (.seq (R [c0 12 (.ixp 3 (.s 8) (.s 10)), c0 13 (.ld true 3 (.s 12)), c0 5 (.new false (.c (.agg [ki .i64 0, ki .i64 0, ki .i64 0]))), cn (.st 3 (.s 5) (.s 13))] [0, 3, 5, 6, 8, 9, 10]) (.seq (R [c0 14 (.mv (.s 0)), c0 15 (.ld true 3 (.s 5)), c0 16 (.call none (.c (kf 20)) [(.s 14), (.s 15)]), c0 6 (.new false (.c (.agg [ki .i64 0, ki .i64 0, ki .i64 0, ki .i64 0, ki .i64 0, ki .i64 0, ki .i64 0, ki .i64 0, ks [], ks [], ki .i64 0, ki .i64 0, ki .i64 0, ki .i64 0, kn 3]))), cn (.st 15 (.s 6) (.s 16))] [0, 3, 5, 6, 8, 9, 10]) (.seq (R [c0 17 (.mov 0 (.s 6)), c0 18 (.ld false 1 (.s 17)), cb 19 (.bin .geq .any (.s 18) (.c (ki .i64 1)))] [0, 3, 5, 6, 8, 9, 10, 19]) (.ite (.s 19) (R [c0 20 (.tk (.s 3)), c0 21 (.ld true 3 (.s 5)), c0 22 (.mov 5 (.s 6)), c0 23 (.ld true 8 (.s 22)), c0 24 (.mov 13 (.s 6)), c0 25 (.ld true 2 (.s 24)), c0 26 (.bld [ki .i64 0, ki .i64 0, ki .i64 0, ki .i64 0, ki .i64 0, ki .i64 0, ks [], ks [], ki .i64 0, ki .i64 0, ki .i64 0, ki .i64 0, kz 3] [(0, 3, (.s 21)), (3, 8, (.s 23)), (11, 2, (.s 25))]), c0 27 (.bsl 13 [(.s 26)]), c0 28 (.app 13 150 false (.s 20) (.s 27)), c0 3 (.tk (.s 28))] [0, 3, 5, 6, 8, 9, 10]) (.skip)))))) (R [c0 29 (.bin .add .any (.s 10) (.c (ki .i64 1))), c0 10 (.mv (.s 29))] [0, 3, 5, 6, 8, 9, 10]))))))) (.seq (R [c0 30 (.tk (.s 3)), c0 2 (.tk (.s 30))] [2, 5, 6]) (.ret))))
theorem fun23 : Fun Tryz.prog cfg 23 31 cd23 [.s 2] := ⟨rfl, Tryz.f23, _, Tryz.func23, rfl, rfl, by kernel_rfl, by kernel_rfl⟩
@[go_sem] theorem ok23 : calleeOK Tryz.prog 23 = true := by kernel_rfl
@[go_sem] theorem ex23 : (cfg.ext 23).isSome = false := rfl
def cd38 : Cd := .seq (R [cb 3 (.tk (.c (kb false)))] [0, 1]) (.seq (R [c0 4 (.ld false 1 (.s 1)), c0 5 (.mov 0 (.s 4)), c0 6 (.mov 1 (.s 5)), c0 7 (.ld true 2 (.s 6)), c0 8 (.mv (.s 0)), cb 9 (.call none (.c (kf 39)) [(.s 7), (.s 8)]), cb 3 (.tk (.s 9))] [3]) (.ret))
theorem fun38 : Fun Tryz.prog cfg 38 10 cd38 [.s 3] := ⟨rfl, Tryz.f38, _, Tryz.func38, rfl, rfl, by kernel_rfl, by kernel_rfl⟩
@[go_sem] theorem ok38 : calleeOK Tryz.prog 38 = true := by kernel_rfl
@[go_sem] theorem ex38 : (cfg.ext 38).isSome = false := rfl
def cd15 : Cd := .seq (R [c0 2 (.new false (.s 0)), c0 3 (.new false (.s 1)), cb 4 (.mv (.c (kb false)))] [2, 3]) (.seq (R [c0 7 (.mkf (.func 38) 0 [(.s 2)]), c0 5 (.tk (.s 7))] [2, 3, 5]) (.seq (RD (cd (some 8) false none (.mov 2 (.s 3)) false false [3] :: cd (some 9) false none (.ld false 1 (.s 8)) false false [8] :: cd (some 10) false none (.ld false 1 (.s 2)) false false [2] :: cd (some 11) false none (.mov 0 (.s 10)) false false [10] :: cd (some 12) false none (.mov 0 (.s 11)) false false [11] :: cd (some 13) false none (.ld false 1 (.s 12)) false false [12] :: cd (some 14) true none (.bin .eql .any (.s 9) (.s 13)) false false [9, 13] :: cd (some 15) true none (.mv (.s 14)) false false [14] :: cd (some 16) false (some (15, true)) (.mv (.s 5)) false false [5] :: cd (some 17) false (some (15, true)) (.mov 1 (.s 3)) false false [3] :: cd (some 18) false (some (15, true)) (.ld false 1 (.s 17)) false false [17] :: cd (some 19) true (some (15, true)) (.call none (.s 16) [(.s 18)]) false false [16, 18] :: cd (some 20) true none (.pick (.s 15) (.s 19) (.c (kb false))) false false [15, 19] :: cd (some 21) true none (.mv (.s 20)) false false [20] :: cd (some 22) false (some (21, true)) (.mv (.s 5)) false false [5] :: cd (some 23) false (some (21, true)) (.mov 2 (.s 3)) false false [3] :: cd (some 24) false (some (21, true)) (.ld false 1 (.s 23)) false false [23] :: cd (some 25) true (some (21, true)) (.call none (.s 22) [(.s 24)]) false false [22, 24] :: cd (some 26) true none (.pick (.s 21) (.s 25) (.c (kb false))) false false [21, 25] :: cd (some 27) true none (.mv (.s 26)) false false [26] :: cd (some 28) false (some (27, true)) (.mv (.s 5)) false false [5] :: cd (some 29) false (some (27, true)) (.mov 3 (.s 3)) false false [3] :: cd (some 30) false (some (27, true)) (.mov 1 (.s 29)) false false [29] :: cd (some 31) false (some (27, true)) (.ld false 1 (.s 30)) false false [30] :: cd (some 32) true (some (27, true)) (.call none (.s 28) [(.s 31)]) false false [28, 31] :: cd (some 33) true none (.pick (.s 27) (.s 32) (.c (kb false))) false false [27, 32] :: cd (some 6) true none (.mv (.s 33)) false false [33] :: []) [2, 3, 6] []) (.seq (RD (cd (some 34) true none (.mv (.s 6)) false false [6] :: cd (some 35) true none (.mv (.s 34)) false false [34] :: cd (some 36) false (some (35, true)) (.mov 3 (.s 3)) false false [3] :: cd (some 37) false (some (35, true)) (.ld true 3 (.s 36)) false false [36] :: cd (some 38) true (some (35, true)) (.call none (.c (kf 40)) [(.s 37)]) false false [37] :: cd (some 39) true none (.pick (.s 35) (.s 38) (.c (kb false))) false false [35, 38] :: cd (some 40) true none (.mv (.s 39)) false false [39] :: cd (some 41) false (some (40, true)) (.mov 3 (.s 3)) false false [3] :: cd (some 42) false (some (40, true)) (.mov 0 (.s 41)) false false [41] :: cd (some 43) false (some (40, true)) (.ld false 1 (.s 42)) false false [42] :: cd (some 44) false (some (40, true)) (.ld false 1 (.s 2)) false false [2] :: cd (some 45) false (some (40, true)) (.mov 0 (.s 44)) false false [44] :: cd (some 46) false (some (40, true)) (.mov 1 (.s 45)) false false [45] :: cd (some 47) false (some (40, true)) (.mov 0 (.s 46)) false false [46] :: cd (some 48) false (some (40, true)) (.ld false 1 (.s 47)) false false [47] :: cd (some 49) true (some (40, true)) (.bin .eql .any (.s 43) (.s 48)) false false [43, 48] :: cd (some 50) true none (.pick (.s 40) (.s 49) (.c (kb false))) false false [40, 49] :: cd (some 51) true none (.mv (.s 50)) false false [50] :: cd (some 52) false (some (51, true)) (.mov 6 (.s 3)) false false [3] :: cd (some 53) false (some (51, true)) (.ld true 2 (.s 52)) false false [52] :: cd (some 54) true (some (51, true)) (.call none (.c (kf 41)) [(.s 53)]) false false [53] :: cd (some 55) true none (.pick (.s 51) (.s 54) (.c (kb false))) false false [51, 54] :: cd (some 56) true none (.mv (.s 55)) false false [55] :: cd (some 57) false (some (56, true)) (.mov 8 (.s 3)) false false [3] :: cd (some 58) false (some (56, true)) (.mov 3 (.s 57)) false false [57] :: cd (some 59) false (some (56, true)) (.ld true 2 (.s 58)) false false [58] :: cd (some 60) true (some (56, true)) (.call none (.c (kf 41)) [(.s 59)]) false false [59] :: cd (some 61) true none (.pick (.s 56) (.s 60) (.c (kb false))) false false [56, 60] :: cd (some 62) true none (.mv (.s 61)) false false [61] :: cd (some 63) false (some (62, true)) (.mov 3 (.s 3)) false false [3] :: cd (some 64) false (some (62, true)) (.ld true 3 (.s 63)) false false [63] :: cd (some 65) false (some (62, true)) (.mov 8 (.s 3)) false false [3] :: cd (some 66) false (some (62, true)) (.mov 13 (.s 65)) false false [65] :: cd (some 67) false (some (62, true)) (.ld true 2 (.s 66)) false false [66] :: cd (some 68) true (some (62, true)) (.call none (.c (kf 42)) [(.s 64), (.s 67)]) false false [64, 67] :: cd (some 69) true none (.pick (.s 62) (.s 68) (.c (kb false))) false false [62, 68] :: cd (some 4) true none (.mv (.s 69)) false false [69] :: []) [2, 3, 4] []) (.ret))))
theorem fun15 : Fun Tryz.prog cfg 15 70 cd15 [.s 4] := ⟨rfl, Tryz.f15, _, Tryz.func15, rfl, rfl, by kernel_rfl, by kernel_rfl⟩
@[go_sem] theorem ok15 : calleeOK Tryz.prog 15 = true := by kernel_rfl
@[go_sem] theorem ex15 : (cfg.ext 15).isSome = false := rfl
def cd44 : Cd := .seq (R [c0 5 (.new false (.s 1)), c0 7 (.new false (.s 3)), c0 8 (.mv (.c (kn 27)))] [0, 2, 5, 7]) (.seq (RD [cd (some 9) false none (.mv (.s 2)) false false [2], cd (some 10) false none (.mv (.s 0)) false false [0], cd (some 11) false none (.mov 0 (.s 10)) false false [10], cd (some 12) false none (.mov 0 (.s 11)) false false [11], cd (some 13) false none (.ld false 1 (.s 12)) false false [12], cd (some 14) false none (.mov 1 (.s 5)) false false [5], cd (some 15) false none (.ld false 1 (.s 14)) false false [14], cd (some 16) false none (.mov 3 (.s 5)) false false [5], cd (some 17) false none (.ld true 3 (.s 16)) false false [16], cd (some 18) false none (.mov 6 (.s 5)) false false [5], cd (some 19) false none (.ld true 2 (.s 18)) false false [18], cd (some 20) false none (.ld true 15 (.s 7)) false false [7], cd (some 21) false none (.bld [ki .i64 0, ki .i64 0, ki .i64 0, ki .i64 0, ki .i64 0, ki .i64 0, ki .i64 0, ki .i64 0, ki .i64 0, ki .i64 0, ki .i64 0, ki .i64 0, ki .i64 0, ki .i64 0, ki .i64 0, ki .i64 0, ks [], ks [], ki .i64 0, ki .i64 0, ki .i64 0, ki .i64 0, kz 3, ki .i64 0, kz 1, kz 3, kz 6] [(0, 1, (.s 9)), (1, 1, (.s 13)), (2, 1, (.s 15)), (3, 3, (.s 17)), (6, 2, (.s 19)), (8, 15, (.s 20))]) false false [9, 13, 15, 17, 19, 20], cd (some 22) false none (.bsl 27 [(.s 21)]) false false [21], cd (some 8) false none (.mv (.s 22)) false false [22]] [5, 7, 8] []) (.ret))
theorem fun44 : Fun Tryz.prog cfg 44 23 cd44 [.s 8] := ⟨rfl, Tryz.f44, _, Tryz.func44, rfl, rfl, by kernel_rfl, by kernel_rfl⟩
@[go_sem] theorem ok44 : calleeOK Tryz.prog 44 = true := by kernel_rfl
@[go_sem] theorem ex44 : (cfg.ext 44).isSome = false := rfl
def cd82 : Cd := .seq (R [c0 5 (.new false (.s 1)), c0 7 (.new false (.s 3)), c0 8 (.mv (.c (kn 27)))] [0, 2, 5, 7]) (.seq (R [c0 9 (.mv (.s 0)), c0 10 (.mov 3 (.s 5)), c0 11 (.ld true 3 (.s 10)), c0 12 (.ld true 15 (.s 7)), c0 13 (.call none (.c (kf 27)) [(.s 9), (.s 11), (.s 12)])] [0, 2, 5, 7]) (.seq (RD [cd (some 14) false none (.mv (.s 0)) false false [0], cd (some 15) false none (.ld true 27 (.s 5)) false false [5], cd (some 16) false none (.mv (.s 2)) false false [2], cd (some 17) false none (.mv (.s 0)) false false [0], cd (some 18) false none (.mov 3 (.s 5)) false false [5], cd (some 19) false none (.ld true 3 (.s 18)) false false [18], cd (some 20) false none (.call none (.c (kf 20)) [(.s 17), (.s 19)]) false false [17, 19], cd (some 21) false none (.call none (.c (kf 44)) [(.s 14), (.s 15), (.s 16), (.s 20)]) false false [14, 15, 16, 20], cd (some 8) false none (.mv (.s 21)) false false [21]] [5, 7, 8] [10]) (.ret)))
theorem fun82 : Fun Tryz.prog cfg 82 22 cd82 [.s 8] := ⟨rfl, Tryz.f82, _, Tryz.func82, rfl, rfl, by kernel_rfl, by kernel_rfl⟩
@[go_sem] theorem ok82 : calleeOK Tryz.prog 82 = true := by kernel_rfl
@[go_sem] theorem ex82 : (cfg.ext 82).isSome = false := rfl
def cd65 : Cd := .seq (R [c0 4 (.new false (.s 1)), c0 5 (.new false (.s 2)), c0 6 (.mv (.c (kn 27)))] [0, 4, 5, 7]) (.seq (.seq (R [c0 8 (.mov 0 (.s 5)), c0 9 (.ld false 1 (.s 8)), cb 10 (.bin .geq .any (.s 9) (.c (ki .i64 1))), cb 11 (.mv (.s 10)), cg 12 11 true (.mov 3 (.s 5)), cg 13 11 true (.ld true 2 (.s 12)), cg 14 11 true (.mov 6 (.s 4)), cg 15 11 true (.ld true 2 (.s 14)), ch 16 11 true (.bin .eql (.flat [0, 0]) (.s 13) (.s 15)), cb 17 (.pick (.s 11) (.s 16) (.c (kb false)))] [0, 4, 5, 7, 17]) (.ite (.s 17) (.seq (.seq (R [c0 18 (.mov 0 (.s 5)), c0 19 (.ld false 1 (.s 18)), cb 20 (.bin .neq .any (.s 19) (.c (ki .i64 1)))] [0, 4, 5, 7, 20]) (.ite (.s 20) (.seq (R [c0 6 (.mv (.c (kn 27)))] [4, 5, 6, 7]) (.ret)) (.skip))) (.seq (R [c0 21 (.mv (.s 0)), c0 22 (.ld true 27 (.s 4)), c0 23 (.ld true 15 (.s 5)), c0 24 (.call none (.c (kf 44)) [(.s 21), (.s 22), (.c (ki .i64 1)), (.s 23)]), c0 6 (.mv (.s 24))] [4, 5, 6, 7]) (.ret))) (.skip))) (.seq (RD [cd (some 25) false none (.mv (.s 0)) false false [0], cd (some 26) false none (.call none (.c (kf 23)) [(.s 25)]) false false [25], cd (some 27) false none (.mov 3 (.s 4)) false false [4], cd (some 28) false none (.ld true 3 (.s 27)) false false [27], cd (some 29) false none (.mov 8 (.s 4)) false false [4], cd (some 30) false none (.mov 5 (.s 29)) false false [29], cd (some 31) false none (.ld true 8 (.s 30)) false false [30], cd (some 32) false none (.call none (.c (kf 81)) [(.s 26), (.s 28), (.s 31)]) false false [26, 28, 31], cd (some 7) false none (.new false (.c (.agg [ki .i64 0, kn 3]))) true false [], cd none false none (.st 2 (.s 7) (.s 32)) false false [7, 32]] [0, 4, 5, 7] [54, 60]) (.seq (RD [cd (some 33) false none (.mv (.s 0)) false false [0], cd (some 34) false none (.ld true 27 (.s 4)) false false [4], cd (some 35) false none (.mov 6 (.s 4)) false false [4], cd (some 36) false none (.ld true 2 (.s 35)) false false [35], cd (some 37) false none (.mov 6 (.s 4)) false false [4], cd (some 38) false none (.ld true 2 (.s 37)) false false [37], cd (some 39) false none (.mov 8 (.s 4)) false false [4], cd (some 40) false none (.mov 5 (.s 39)) false false [39], cd (some 41) false none (.ld true 8 (.s 40)) false false [40], cd (some 42) false none (.mov 8 (.s 4)) false false [4], cd (some 43) false none (.mov 13 (.s 42)) false false [42], cd (some 44) false none (.ld true 2 (.s 43)) false false [43], cd (some 45) false none (.ld true 2 (.s 7)) false false [7], cd (some 46) false none (.call none (.c (kf 83)) [(.s 44), (.s 45)]) false false [44, 45], cd (some 47) false none (.bld [ki .i64 0, ki .i64 0, ki .i64 0, ki .i64 0, ki .i64 0, ki .i64 0, ki .i64 0, ki .i64 0, ks [], ks [], ki .i64 0, ki .i64 0, ki .i64 0, ki .i64 0, kz 3] [(0, 1, (.c (ki .i64 1))), (1, 2, (.s 36)), (3, 2, (.s 38)), (5, 8, (.s 41)), (13, 2, (.s 46))]) false false [36, 38, 41, 46], cd (some 48) false none (.call none (.c (kf 82)) [(.s 33), (.s 34), (.c (ki .i64 1)), (.s 47)]) false false [33, 34, 47], cd (some 6) false none (.mv (.s 48)) false false [48]] [4, 5, 6, 7] []) (.ret))))
theorem fun65 : Fun Tryz.prog cfg 65 49 cd65 [.s 6] := ⟨rfl, Tryz.f65, _, Tryz.func65, rfl, rfl, by kernel_rfl, by kernel_rfl⟩
@[go_sem] theorem ok65 : calleeOK Tryz.prog 65 = true := by kernel_rfl
@[go_sem] theorem ex65 : (cfg.ext 65).isSome = false := rfl
def cd66 : Cd := .seq (R [c0 4 (.new false (.s 1)), c0 5 (.new false (.s 2)), c0 6 (.tk (.c (kn 27)))] [0, 4, 5]) (.seq (R [c0 7 (.mv (.s 0)), c0 8 (.ld true 27 (.s 4)), c0 9 (.mov 6 (.s 4)), c0 10 (.ld true 2 (.s 9)), c0 11 (.mov 6 (.s 4)), c0 12 (.ld true 2 (.s 11)), c0 13 (.mov 8 (.s 4)), c0 14 (.mov 5 (.s 13)), c0 15 (.ld true 8 (.s 14)), c0 16 (.mov 8 (.s 4)), c0 17 (.mov 13 (.s 16)), c0 18 (.ld true 2 (.s 17)), c0 19 (.bld [ki .i64 0, ki .i64 0, ki .i64 0, ki .i64 0, ki .i64 0, ki .i64 0, ki .i64 0, ki .i64 0, ks [], ks [], ki .i64 0, ki .i64 0, ki .i64 0, ki .i64 0, kz 3] [(0, 1, (.c (ki .i64 2))), (1, 2, (.s 10)), (3, 2, (.s 12)), (5, 8, (.s 15)), (13, 2, (.s 18))]), c0 20 (.call none (.c (kf 82)) [(.s 7), (.s 8), (.c (ki .i64 3)), (.s 19)]), c0 6 (.tk (.s 20))] [4, 5, 6]) (.ret))
theorem fun66 : Fun Tryz.prog cfg 66 21 cd66 [.s 6] := ⟨rfl, Tryz.f66, _, Tryz.func66, rfl, rfl, by kernel_rfl, by kernel_rfl⟩
@[go_sem] theorem ok66 : calleeOK Tryz.prog 66 = true := by kernel_rfl
@[go_sem] theorem ex66 : (cfg.ext 66).isSome = false := rfl
def cd67 : Cd := .seq (R [c0 4 (.new false (.s 1)), c0 5 (.new false (.s 2)), c0 6 (.tk (.c (kn 27)))] [0, 4, 5]) (.seq (R [c0 7 (.mov 6 (.s 4)), c0 8 (.ld true 2 (.s 7)), c0 9 (.mov 1 (.s 5)), cn (.st 2 (.s 9) (.s 8))] [0, 4, 5]) (.seq (R [c0 10 (.mv (.s 0)), c0 11 (.ld true 27 (.s 4)), c0 12 (.ld true 15 (.s 5)), c0 13 (.call none (.c (kf 82)) [(.s 10), (.s 11), (.c (ki .i64 6)), (.s 12)]), c0 6 (.tk (.s 13))] [4, 5, 6]) (.ret)))
theorem fun67 : Fun Tryz.prog cfg 67 14 cd67 [.s 6] := ⟨rfl, Tryz.f67, _, Tryz.func67, rfl, rfl, by kernel_rfl, by kernel_rfl⟩
@[go_sem] theorem ok67 : calleeOK Tryz.prog 67 = true := by kernel_rfl
@[go_sem] theorem ex67 : (cfg.ext 67).isSome = false := rfl
def cd43 : Cd := .seq (R [c0 0 (.tk (.c (.sc (.map none))))] []) (.seq (R [c0 1 (.mkm), cn (.mup [0] false 1 (.s 1) (.c (ki .i64 0)) (.c (kf 65))), cn (.mup [0] false 1 (.s 1) (.c (ki .i64 2)) (.c (kf 66))), cn (.mup [0] false 1 (.s 1) (.c (ki .i64 5)) (.c (kf 67))), c0 2 (.mv (.s 1)), c0 0 (.tk (.s 2))] [0]) (.ret))
theorem fun43 : Fun Tryz.prog cfg 43 3 cd43 [.s 0] := ⟨rfl, Tryz.f43, _, Tryz.func43, rfl, rfl, by kernel_rfl, by kernel_rfl⟩
@[go_sem] theorem ok43 : calleeOK Tryz.prog 43 = true := by kernel_rfl
@[go_sem] theorem ex43 : (cfg.ext 43).isSome = false := rfl
def cd16 : Cd := .seq (R [c0 3 (.new false (.s 1)), c0 4 (.tk (.c (kn 27)))] [0, 3, 5]) (.seq (.seq (R [c0 7 (.mv (.s 0)), c0 8 (.ld true 27 (.s 3)), cb 9 (.call none (.c (kf 15)) [(.s 7), (.s 8)]), cb 10 (.un .not (.s 9))] [0, 3, 5, 10]) (.ite (.s 10) (.seq (R [c0 4 (.tk (.c (kn 27)))] [3, 4, 5]) (.ret)) (.skip))) (.seq (R [c0 11 (.mv (.s 0)), c0 12 (.mov 3 (.s 3)), c0 13 (.ld true 3 (.s 12)), c0 14 (.call none (.c (kf 20)) [(.s 11), (.s 13)]), c0 5 (.new false (.c (.agg [ki .i64 0, ki .i64 0, ki .i64 0, ki .i64 0, ki .i64 0, ki .i64 0, ki .i64 0, ki .i64 0, ks [], ks [], ki .i64 0, ki .i64 0, ki .i64 0, ki .i64 0, kn 3]))), cn (.st 15 (.s 5) (.s 14))] [0, 3, 5]) (.seq (RD [cd (some 15) false none (.call none (.c (kf 43)) []) false false [], cd (some 16) false none (.mov 0 (.s 3)) false false [3], cd (some 17) false none (.ld false 1 (.s 16)) false false [16], cd (some 18) false none (.lkp [0] false 1 (.sc .nilFunc) false (.s 15) (.s 17)) false false [15, 17], cd (some 6) false none (.mv (.s 18)) false false [18]] [0, 3, 5, 6] [32]) (.seq (.block 0 (.seq (R [c0 20 (.mov 0 (.s 3)), c0 21 (.ld false 1 (.s 20)), cb 22 (.bin .eql .any (.s 21) (.c (ki .i64 4))), cb 23 (.mv (.s 22)), cg 24 23 true (.mov 0 (.s 5)), cg 25 23 true (.ld false 1 (.s 24)), ch 26 23 true (.bin .neq .any (.s 25) (.c (ki .i64 3))), cb 27 (.pick (.s 23) (.s 26) (.c (kb false))), cb 19 (.tk (.s 27))] [0, 3, 5, 6, 19]) (.ite (.s 19) (.seq (R [c0 28 (.mv (.s 0)), c0 29 (.mov 3 (.s 3)), c0 30 (.ld true 3 (.s 29)), c0 31 (.mov 1 (.s 5)), c0 32 (.ld true 2 (.s 31)), c0 33 (.mov 8 (.s 3)), c0 34 (.mov 3 (.s 33)), c0 35 (.ld true 2 (.s 34)), c0 36 (.mov 8 (.s 3)), c0 37 (.mov 5 (.s 36)), c0 38 (.ld true 8 (.s 37)), c0 39 (.mov 8 (.s 3)), c0 40 (.mov 13 (.s 39)), c0 41 (.ld true 2 (.s 40)), c0 42 (.bld [ki .i64 0, ki .i64 0, ki .i64 0, ki .i64 0, ki .i64 0, ki .i64 0, ki .i64 0, ki .i64 0, ks [], ks [], ki .i64 0, ki .i64 0, ki .i64 0, ki .i64 0, kz 3] [(0, 1, (.c (ki .i64 3))), (1, 2, (.s 32)), (3, 2, (.s 35)), (5, 8, (.s 38)), (13, 2, (.s 41))]), c0 43 (.call none (.c (kf 27)) [(.s 28), (.s 30), (.s 42)])] [3, 5]) (.seq (R [c0 4 (.tk (.c (kn 27)))] [3, 4, 5]) (.ret))) (.seq (R [c0 45 (.mv (.s 6)), cb 46 (.bin .eql .func (.s 45) (.c (.sc .nilFunc))), cb 44 (.tk (.s 46))] [0, 3, 5, 6, 44]) (.ite (.s 44) (.seq (R [c0 4 (.tk (.c (kn 27)))] [3, 4, 5]) (.ret)) (.seq (R [c0 48 (.mov 0 (.s 5)), c0 49 (.ld false 1 (.s 48)), cb 50 (.bin .eql .any (.s 49) (.c (ki .i64 3))), cb 47 (.tk (.s 50))] [0, 3, 5, 6, 47]) (.ite (.s 47) (.seq (R [c0 51 (.mv (.s 0)), c0 52 (.ld true 27 (.s 3)), c0 53 (.ld true 15 (.s 5)), c0 54 (.call none (.c (kf 44)) [(.s 51), (.s 52), (.c (ki .i64 4)), (.s 53)]), c0 4 (.tk (.s 54))] [3, 4, 5]) (.ret)) (.seq (R [c0 56 (.mov 6 (.s 3)), c0 57 (.ld true 2 (.s 56)), c0 58 (.mov 1 (.s 5)), c0 59 (.ld true 2 (.s 58)), cb 60 (.call none (.c (kf 26)) [(.s 57), (.s 59)]), cb 55 (.tk (.s 60))] [0, 3, 5, 6, 55]) (.ite (.s 55) (.seq (R [c0 61 (.mov 1 (.s 5)), c0 62 (.ld true 2 (.s 61)), c0 63 (.mov 6 (.s 3)), cn (.st 2 (.s 63) (.s 62))] [0, 3, 5]) (.seq (R [c0 64 (.mv (.s 0)), c0 65 (.ld true 27 (.s 3)), c0 66 (.bld [ki .i64 0, ki .i64 0, ki .i64 0, ki .i64 0, ki .i64 0, ki .i64 0, ki .i64 0, ki .i64 0, ks [], ks [], ki .i64 0, ki .i64 0, ki .i64 0, ki .i64 0, kz 3] []), c0 67 (.call none (.c (kf 44)) [(.s 64), (.s 65), (.c (ki .i64 7)), (.s 66)]), c0 4 (.tk (.s 67))] [3, 4, 5]) (.ret))) (.skip)))))))))) (.seq (R [c0 68 (.mv (.s 6)), c0 69 (.mv (.s 0)), c0 70 (.ld true 27 (.s 3)), c0 71 (.ld true 15 (.s 5)), c0 72 (.call none (.s 68) [(.s 69), (.s 70), (.s 71)]), c0 4 (.tk (.s 72))] [3, 4, 5]) (.ret))))))
theorem fun16 : Fun Tryz.prog cfg 16 73 cd16 [.s 4] := ⟨rfl, Tryz.f16, _, Tryz.func16, rfl, rfl, by kernel_rfl, by kernel_rfl⟩
@[go_sem] theorem ok16 : calleeOK Tryz.prog 16 = true := by kernel_rfl
@[go_sem] theorem ex16 : (cfg.ext 16).isSome = false := rfl
variable {h : DHeap}
theorem one_nums' (l : List Int) : ∀ r ∈ vnums l, r.length = 1 := by
  intro r hr
  obtain ⟨s, _, rfl⟩ := List.mem_map.1 hr
  rfl
theorem cell_nums' (l : List Int) : (vnums l).flatten.all DV.cell = true := by
  simp only [List.all_eq_true, List.mem_flatten]
  rintro d ⟨r, hr, hd⟩
  obtain ⟨s, _, rfl⟩ := List.mem_map.1 hr
  simp only [List.mem_cons, List.not_mem_nil, or_false] at hd
  subst hd
  rfl
theorem cloneI_lim (own : Bool) (l : List Int) (hl : l.length ≤ 1048576) : lim Tryz.prog cfg 59 [.list own 1 (vnums l)] h = some (.list true 1 (vnums l), h) := by
  refine lim_ext rfl ?_ rfl
  show cloneLF 1 [.list own 1 (vnums l)] h = _
  simp only [cloneLF]
  rw [if_pos ⟨by first | rfl | trivial, by rw [vnums_len]; exact hl, one_nums' l, cell_nums' l⟩]
theorem cloneD_lim (own : Bool) (l : List Id) (hl : l.length ≤ 1048576) : lim Tryz.prog cfg 49 [.list own 3 (idr l)] h = some (.list true 3 (idr l), h) := by
  refine lim_ext rfl ?_ rfl
  show cloneLF 3 [.list own 3 (idr l)] h = _
  simp only [cloneLF]
  rw [if_pos ⟨by first | rfl | trivial, by rw [idr_len]; exact hl, three_ids l, cell_ids l⟩]
theorem indexN_lim (own : Bool) (l : List Int) (x : Int) (hl : l.length ≤ 1099511627776) :
    lim Tryz.prog cfg 80 [.list own 1 (vnums l), vi x] h = some (vi (posI (fun y => decide (x = y)) l), h) := by
  refine lim_funp fun80 rfl (by simp) (by simp [heapFree, heapFree.all, free_vnums]) rfl ?_
  delta cd80
  simp -implicitDefEqProofs -dsimp only [go_sem]
  refine wp_for (σ := Nat) (fun k => [(0, .list false 1 (vnums l)), (1, vi x), (7, vi (l.length : Nat)), (8, vi (k : Nat))]) (fun _ => []) (fun k => l.length - k) (fun k => k ≤ l.length ∧ ∀ j (hj : j < l.length), j < k → decide (x = l[j]) = false) 0 (by simp) rfl rfl ?_
  rintro k ⟨hk, hj⟩ N hN
  by_cases hlt : k < l.length
  · have h1 : ((k : Int) < (l.length : Int)) := by omega
    by_cases hc : x = l[k]
    · have e := posI_at (p := fun y => decide (x = y)) hlt (by simpa using hc) hj
      simp -implicitDefEqProofs -dsimp only [go_sem, wp_RD, h1, hlt, eq_true hc, e]
    · simp -implicitDefEqProofs -dsimp only [go_sem, wp_RD, h1, hlt, eq_false hc]
      refine hN (k + 1) _ (by omega) ⟨by omega, fun j hj1 hj2 => ?_⟩ ?_
      · by_cases e : j = k
        · subst e; simpa using hc
        · exact hj j hj1 (by omega)
      · simp -implicitDefEqProofs -dsimp only [go_sem, wrap_succ (show k < 9223372036854775807 by omega)]
  · have h1 : ¬ ((k : Int) < (l.length : Int)) := by omega
    have e := posI_no (p := fun y => decide (x = y)) (l := l) fun j hj1 => hj j hj1 (by omega)
    simp -implicitDefEqProofs -dsimp only [go_sem, h1, e]
theorem containsN_lim (own : Bool) (l : List Int) (x : Int) (hl : l.length ≤ 1099511627776) :
    lim Tryz.prog cfg 62 [.list own 1 (vnums l), vi x] h = some (vb (decide (x ∈ l)), h) := by
  refine lim_funp fun62 rfl (by simp) (by simp [heapFree, heapFree.all, free_vnums]) rfl ?_
  delta cd62
  have e1 := indexN_lim (h := []) false l x hl
  have e2 := posI_ge (fun y => decide (x = y)) l
  rw [any_mem] at e2
  simp -implicitDefEqProofs -dsimp only [go_sem, e1, e2]
  simp
theorem hasC_lim (e : Int) (l : List Int) (x : Int) (hl : l.length ≤ 1099511627776) :
    lim Tryz.prog cfg 39 [.agg [vi e, .list false 1 (vnums l)], vi x] h = some (vb (decide (x ∈ l)), h) := by
  refine lim_funp fun39 rfl (by simp) (by simp [heapFree, heapFree.all, free_vnums]) rfl ?_
  delta cd39
  have e1 := containsN_lim (h := []) false l x hl
  simp -implicitDefEqProofs -dsimp only [go_sem, e1]
  simp
theorem cloneC_lim (e : Int) (l : List Int) (hl : l.length ≤ 1048576) : lim Tryz.prog cfg 33 [.agg [vi e, .list false 1 (vnums l)]] h = some (.agg [vi e, .list false 1 (vnums l)], h) := by
  refine lim_funp fun33 rfl (by simp) (by simp [heapFree, heapFree.all, free_vnums]) (by simp [heapFree, heapFree.all, free_vnums]) ?_
  delta cd33
  have e1 := fun own => cloneI_lim (h := []) own l hl
  simp -implicitDefEqProofs -dsimp only [go_sem, wp_RD, Nat.reduceDiv, e1]
theorem lessB_lim (a b : Bal) : lim Tryz.prog cfg 26 [.agg [vi a.no, vi a.node], .agg [vi b.no, vi b.node]] h = some (vb (lessB a b), h) := by
  refine lim_funp fun26 rfl (by simp) rfl rfl ?_
  delta cd26
  unfold lessB
  by_cases h1 : a.no = b.no
  · simp -implicitDefEqProofs -dsimp only [go_sem, h1]
    simp
  · simp -implicitDefEqProofs -dsimp only [go_sem, h1]
    simp [h1]
theorem inB_lim (n m : Int) : lim Tryz.prog cfg 64 [vi n, vi m] h = some (vb (decide (0 ≤ n) && decide (n ≤ m)), h) := by
  refine lim_funp fun64 rfl (by simp) rfl rfl ?_
  delta cd64
  by_cases h1 : 0 ≤ n <;> simp -implicitDefEqProofs -dsimp only [go_sem, h1] <;> simp
theorem validB_lim (x : Bal) : lim Tryz.prog cfg 41 [.agg [vi x.no, vi x.node]] h = some (vb (balB x), h) := by
  refine lim_funp fun41 rfl (by simp) rfl rfl ?_
  delta cd41
  have e1 := inB_lim (h := []) x.no 1099511627776
  have e2 := inB_lim (h := []) x.node 31
  unfold balB
  cases h1 : (decide (0 ≤ x.no) && decide (x.no ≤ 1099511627776)) <;> cases h2 : (decide (0 ≤ x.node) && decide (x.node ≤ 31)) <;> rw [h1] at e1 <;> rw [h2] at e2 <;>
    simp -implicitDefEqProofs -dsimp only [go_sem, e1, e2] <;> simp [h1, h2]
/-- How an instance, a book stand in the heap. -/
abbrev idV (x : Id) : DV := .agg [vi x.e, vi x.n, vi x.k]
abbrev insL (x : Ins) : List DV := [vi x.st, vi x.pro.no, vi x.pro.node, vi x.vot.no, vi x.vot.node, vi x.cmd.client, vi x.cmd.seq, vi x.cmd.op, vs x.cmd.path, vs x.cmd.value, vi x.cmd.version, vi x.cmd.a, vi x.cmd.b, vi x.att.seq, .list false 3 (idr x.att.deps)]
abbrev insD (x : Ins) : DV := .agg [vi x.st, vi x.pro.no, vi x.pro.node, vi x.vot.no, vi x.vot.node, vi x.cmd.client, vi x.cmd.seq, vi x.cmd.op, vs x.cmd.path, vs x.cmd.value, vi x.cmd.version, vi x.cmd.a, vi x.cmd.b, vi x.att.seq, .list false 3 (idr x.att.deps)]
abbrev bookM (b : Bk) : DObj := .map (amap idV insD b.m)
structure AtB (h : DHeap) (i j : Nat) (b : Bk) : Prop where
  o : h[i]? = some (.cells [vi b.node, vi b.con.epoch, .list false 1 (vnums b.con.nodes), .mp j])
  m : h[j]? = some (bookM b)
theorem AtB.obj {i j : Nat} {b : Bk} (H : AtB h i j b) (N : List DV → Prop) : ObjP h i N = N [vi b.node, vi b.con.epoch, .list false 1 (vnums b.con.nodes), .mp j] := by simp only [ObjP, H.o]
theorem AtB.map {i j : Nat} {b : Bk} (H : AtB h i j b) (N : List (DV × DV) → Prop) : MapP h j N = N (amap idV insD b.m) := by simp only [MapP, H.m]
theorem AtB.lt {i j : Nat} {b : Bk} (H : AtB h i j b) : i < h.length ∧ j < h.length := ⟨(List.getElem?_eq_some_iff.1 H.o).1, (List.getElem?_eq_some_iff.1 H.m).1⟩
theorem AtB.ne {i j : Nat} {b : Bk} (H : AtB h i j b) : i ≠ j := fun e => by have := H.m; rw [← e, H.o] at this; cases this
theorem AtB.set {i j : Nat} {b : Bk} (H : AtB h i j b) (m : List (Id × Ins)) : AtB (h.set j (bookM { b with m := m })) i j { b with m := m } :=
  ⟨by rw [List.getElem?_set_ne (Ne.symm H.ne)]; exact H.o, by rw [List.getElem?_set_self H.lt.2]⟩
theorem AtB.app {i j : Nat} {b : Bk} (H : AtB h i j b) (h' : DHeap) : AtB (h ++ h') i j b :=
  ⟨by rw [List.getElem?_append_left H.lt.1]; exact H.o, by rw [List.getElem?_append_left H.lt.2]; exact H.m⟩
theorem find_ins (id : Id) (m : List (Id × Ins)) : findD [0, 0, 0] (.agg [vi id.e, vi id.n, vi id.k]) (amap idV insD m) = some ((aget id m).map insD) := find_amap (K := idV) (V := insD) (fun a b => eqK_id a b) id m
theorem set_ins (id : Id) (x : Ins) (m : List (Id × Ins)) : setKey [0, 0, 0] (.agg [vi id.e, vi id.n, vi id.k]) (insD x) (amap idV insD m) = some (amap idV insD (aset id x m)) := set_amap (K := idV) (V := insD) (fun a b => eqK_id a b) id x m
theorem got_ins (id : Id) (b : Bk) : ((aget id b.m).map insD).getD (.agg [vi 0, vi 0, vi 0, vi 0, vi 0, vi 0, vi 0, vi 0, vs [], vs [], vi 0, vi 0, vi 0, vi 0, .list true 3 []]) =
    .agg [vi (getB b id).st, vi (getB b id).pro.no, vi (getB b id).pro.node, vi (getB b id).vot.no, vi (getB b id).vot.node, vi (getB b id).cmd.client, vi (getB b id).cmd.seq, vi (getB b id).cmd.op, vs (getB b id).cmd.path, vs (getB b id).cmd.value, vi (getB b id).cmd.version, vi (getB b id).cmd.a, vi (getB b id).cmd.b, vi (getB b id).att.seq, .list (aget id b.m).isNone 3 (idr (getB b id).att.deps)] := by
  unfold getB
  cases aget id b.m <;> rfl
theorem new_lim (node : Int) (c : Con) (hl : c.nodes.length ≤ 1048576) : lim Tryz.prog cfg 13 [vi node, .agg [vi c.epoch, .list false 1 (vnums c.nodes)]] h =
    some (.ptr (h.length + 1) 0, h ++ [.map [], .cells [vi node, vi c.epoch, .list false 1 (vnums c.nodes), .mp h.length]]) := by
  refine lim_fun fun13 rfl (by simp) rfl ?_
  delta cd13
  have e1 := cloneC_lim (h := h) c.epoch c.nodes hl
  simp -implicitDefEqProofs -dsimp only [go_sem, e1]
  simp
theorem get_lim {i j : Nat} {b : Bk} (H : AtB h i j b) (id : Id) (hd : (getB b id).att.deps.length ≤ 1048576) : lim Tryz.prog cfg 20 [.ptr i 0, .agg [vi id.e, vi id.n, vi id.k]] h = some (insD (getB b id), h) := by
  refine lim_fun fun20 rfl (by simp) rfl ?_
  delta cd20
  have e1 := fun own => cloneD_lim (h := h) own (getB b id).att.deps hd
  have e2 := find_ins id b.m
  have e3 := got_ins id b
  simp -implicitDefEqProofs -dsimp only [go_sem, H.obj, H.map, e2, e3, e1]
theorem set_lim {i j : Nat} {b : Bk} (H : AtB h i j b) (id : Id) (x : Ins) (hx : x.att.deps.length ≤ 1048576) : lim Tryz.prog cfg 27 [.ptr i 0, .agg [vi id.e, vi id.n, vi id.k], insD x] h = some (.tup [], h.set j (bookM (setB b id x))) := by
  refine lim_fun fun27 rfl (by simp) rfl ?_
  delta cd27
  have e1 := fun own => cloneD_lim (h := h) own x.att.deps hx
  have e2 := set_ins id x b.m
  simp -implicitDefEqProofs -dsimp only [go_sem, H.obj, H.map, e2, e1]
  rfl
/-- A message's cells. -/
def pes (l : List PEnt) : List (List DV) := l.map fun e => [vs e.path, vs e.value, vi e.ver]
def pss (l : List PSes) : List (List DV) := l.map fun e => [vi e.client, vi e.seq, vi e.err, vs e.value, vi e.ver, .list false 1 (ts e.names)]
@[go_sem] theorem pes_len (l : List PEnt) : (pes l).length = l.length := by simp [pes]
@[go_sem] theorem pss_len (l : List PSes) : (pss l).length = l.length := by simp [pss]
@[go_sem high] theorem idxP_pes (l : List PEnt) (i : Int) (N : List DV → Prop) : IdxP (pes l) i N = IdxP l i fun e => N [vs e.path, vs e.value, vi e.ver] := idxP_map
@[go_sem high] theorem idxP_pss (l : List PSes) (i : Int) (N : List DV → Prop) : IdxP (pss l) i N = IdxP l i fun e => N [vi e.client, vi e.seq, vi e.err, vs e.value, vi e.ver, .list false 1 (ts e.names)] := idxP_map
theorem free_pes : ∀ l : List PEnt, heapFree.alls (pes l) = true
  | [] => rfl
  | s :: l => by
    have := free_pes l
    simp only [pes] at this
    simp only [pes, List.map_cons, heapFree.alls, heapFree.all, heapFree, this, Bool.and_self]
theorem free_pss : ∀ l : List PSes, heapFree.alls (pss l) = true
  | [] => rfl
  | s :: l => by
    have := free_pss l
    simp only [pss] at this
    simp only [pss, List.map_cons, heapFree.alls, heapFree.all, heapFree, free_ts, this, Bool.and_self]
theorem below_pes (n : Nat) : ∀ l : List PEnt, below.alls n (pes l) = true
  | [] => rfl
  | s :: l => by
    have := below_pes n l
    simp only [pes] at this
    simp only [pes, List.map_cons, below.alls, below.all, below, this, Bool.and_self]
theorem below_ts15 (n : Nat) : ∀ l : List Str, below.alls n (ts l) = true
  | [] => rfl
  | s :: l => by
    have := below_ts15 n l
    simp only [ts] at this
    simp only [ts, List.map_cons, below.alls, below.all, below, this, Bool.and_self]
theorem below_pss (n : Nat) : ∀ l : List PSes, below.alls n (pss l) = true
  | [] => rfl
  | s :: l => by
    have := below_pss n l
    simp only [pss] at this
    simp only [pss, List.map_cons, below.alls, below.all, below, below_ts15, this, Bool.and_self]
abbrev mesL (m : Mes) : List DV := [vi m.kind, vi m.frm, vi m.to, vi m.id.e, vi m.id.n, vi m.id.k, vi m.bal.no, vi m.bal.node, vi m.ins.st, vi m.ins.pro.no, vi m.ins.pro.node, vi m.ins.vot.no, vi m.ins.vot.node, vi m.ins.cmd.client, vi m.ins.cmd.seq, vi m.ins.cmd.op, vs m.ins.cmd.path, vs m.ins.cmd.value, vi m.ins.cmd.version, vi m.ins.cmd.a, vi m.ins.cmd.b, vi m.ins.att.seq, .list false 3 (idr m.ins.att.deps), vi m.snap.con.epoch, .list false 1 (vnums m.snap.con.nodes), .list false 3 (pes m.snap.paths), .list false 6 (pss m.snap.sess)]
abbrev mesD (m : Mes) : DV := .agg [vi m.kind, vi m.frm, vi m.to, vi m.id.e, vi m.id.n, vi m.id.k, vi m.bal.no, vi m.bal.node, vi m.ins.st, vi m.ins.pro.no, vi m.ins.pro.node, vi m.ins.vot.no, vi m.ins.vot.node, vi m.ins.cmd.client, vi m.ins.cmd.seq, vi m.ins.cmd.op, vs m.ins.cmd.path, vs m.ins.cmd.value, vi m.ins.cmd.version, vi m.ins.cmd.a, vi m.ins.cmd.b, vi m.ins.att.seq, .list false 3 (idr m.ins.att.deps), vi m.snap.con.epoch, .list false 1 (vnums m.snap.con.nodes), .list false 3 (pes m.snap.paths), .list false 6 (pss m.snap.sess)]
def mess (l : List Mes) : List (List DV) := l.map fun m => [vi m.kind, vi m.frm, vi m.to, vi m.id.e, vi m.id.n, vi m.id.k, vi m.bal.no, vi m.bal.node, vi m.ins.st, vi m.ins.pro.no, vi m.ins.pro.node, vi m.ins.vot.no, vi m.ins.vot.node, vi m.ins.cmd.client, vi m.ins.cmd.seq, vi m.ins.cmd.op, vs m.ins.cmd.path, vs m.ins.cmd.value, vi m.ins.cmd.version, vi m.ins.cmd.a, vi m.ins.cmd.b, vi m.ins.att.seq, .list false 3 (idr m.ins.att.deps), vi m.snap.con.epoch, .list false 1 (vnums m.snap.con.nodes), .list false 3 (pes m.snap.paths), .list false 6 (pss m.snap.sess)]
@[go_sem] theorem mess_len (l : List Mes) : (mess l).length = l.length := by simp [mess]
@[go_sem high] theorem idxP_mess (l : List Mes) (i : Int) (N : List DV → Prop) : IdxP (mess l) i N = IdxP l i fun m => N [vi m.kind, vi m.frm, vi m.to, vi m.id.e, vi m.id.n, vi m.id.k, vi m.bal.no, vi m.bal.node, vi m.ins.st, vi m.ins.pro.no, vi m.ins.pro.node, vi m.ins.vot.no, vi m.ins.vot.node, vi m.ins.cmd.client, vi m.ins.cmd.seq, vi m.ins.cmd.op, vs m.ins.cmd.path, vs m.ins.cmd.value, vi m.ins.cmd.version, vi m.ins.cmd.a, vi m.ins.cmd.b, vi m.ins.att.seq, .list false 3 (idr m.ins.att.deps), vi m.snap.con.epoch, .list false 1 (vnums m.snap.con.nodes), .list false 3 (pes m.snap.paths), .list false 6 (pss m.snap.sess)] := idxP_map
theorem free_mess : ∀ l : List Mes, heapFree.alls (mess l) = true
  | [] => rfl
  | s :: l => by
    have := free_mess l
    simp only [mess] at this
    simp only [mess, List.map_cons, heapFree.alls, heapFree.all, heapFree, free_idr, free_vnums, free_pes, free_pss, this, Bool.and_self]
theorem below_mess (n : Nat) : ∀ l : List Mes, below.alls n (mess l) = true
  | [] => rfl
  | s :: l => by
    have := below_mess n l
    simp only [mess] at this
    simp only [mess, List.map_cons, below.alls, below.all, below, below_idr, below_vnums, below_pes, below_pss, this, Bool.and_self]
theorem keysDOKb {n : Nat} {b : Bk} (O : BkOK n b) (hn : n ≤ 1000000) : KeysDOK (amap idV insD b.m) (keys b.m) :=
  ⟨by simp only [amap, keys, List.map_map]; rfl, O.nodup, by rw [keys_len]; have := O.len; omega⟩
theorem amap_keysD (b : Bk) : (amap idV insD b.m).map (fun e => keyD e.1) = keys b.m := by
  simp only [amap, keys, List.map_map]
  exact List.map_congr_left fun e _ => rfl
theorem ids_lim {i j n : Nat} {b : Bk} (H : AtB h i j b) (O : BkOK n b) (hn : n ≤ 1000000) : lim Tryz.prog cfg 22 [.ptr i 0] h = some (.list true 3 (idr (idsB b)), h) := by
  refine lim_ext rfl ?_ rfl
  show bidsF [.ptr i 0] h = _
  simp only [bidsF, H.o, H.m]
  generalize hks : (amap idV insD b.m).map (fun e => keyD e.1) = ks
  rw [amap_keysD] at hks
  subst hks
  rw [if_pos (keysDOKb O hn)]
  rfl
theorem kns_snoc' (l : List Kno) (x : Kno) : kns l ++ [[vi x.id.e, vi x.id.n, vi x.id.k, vi x.cmd.client, vi x.cmd.seq, vi x.cmd.op, vs x.cmd.path, vs x.cmd.value, vi x.cmd.version, vi x.cmd.a, vi x.cmd.b, vi x.att.seq, .list false 3 (idr x.att.deps)]] = kns (l ++ [x]) := by simp [kns]
/-- What is known, as far as it was looked at. -/
def knownN (b : Bk) (k : Nat) : List Kno := (((idsB b).take k).filter fun id => decide (1 ≤ (getB b id).st)).map (knoB b)
theorem knownN_len (b : Bk) (k : Nat) : (knownN b k).length ≤ k := by
  unfold knownN
  rw [List.length_map]
  exact Nat.le_trans (List.length_filter_le ..) (by rw [List.length_take]; omega)
theorem knownN_succ (b : Bk) (k : Nat) (hk : k < (idsB b).length) : knownN b (k + 1) = if 1 ≤ (getB b (idsB b)[k]).st then knownN b k ++ [knoB b (idsB b)[k]] else knownN b k := by
  unfold knownN
  rw [List.take_succ_eq_append_getElem hk, List.filter_append, List.map_append]
  split
  · rename_i h; simp [h]
  · rename_i h; simp [h]
set_option maxHeartbeats 1000000 in
theorem known_lim {i j n : Nat} {b : Bk} (H : AtB h i j b) (O : BkOK n b) (hn : n ≤ 100000) : lim Tryz.prog cfg 23 [.ptr i 0] h = some (.list true 13 (kns (knownB b)), h) := by
  refine lim_fun fun23 rfl (by simp) rfl ?_
  delta cd23
  have e0 := ids_lim H O (by omega)
  simp -implicitDefEqProofs -dsimp only [go_sem, e0]
  have hL : (idsB b).length ≤ 100000 := by rw [idsB_len]; have := O.len; omega
  refine wp_for (σ := Nat × DV × DV) (fun s => [(0, .ptr i 0), (3, .list true 13 (kns (knownN b s.1))), (5, s.2.1), (6, s.2.2), (8, .list true 3 (idr (idsB b))), (9, vi ((idsB b).length : Nat)), (10, vi (s.1 : Nat))]) (fun _ => h) (fun s => (idsB b).length - s.1) (fun s => s.1 ≤ (idsB b).length) (0, .junk, .junk) (Nat.zero_le _) rfl rfl ?_
  rintro ⟨k, y, z⟩ hk N hN
  dsimp only at hk
  by_cases hlt : k < (idsB b).length
  · have h1 : ((k : Int) < ((idsB b).length : Int)) := by omega
    have e1 := get_lim H (idsB b)[k] (by have := get_small O (idsB b)[k]; omega)
    have e2 := knownN_succ b k hlt
    have e3 := kns_snoc' (knownN b k) (knoB b (idsB b)[k])
    have hm : ((knownN b k).length + 1) * 150 ≤ maxLenD := by have := knownN_len b k; unfold maxLenD; omega
    by_cases c1 : 1 ≤ (getB b (idsB b)[k]).st
    · rw [if_pos c1] at e2
      have e4 : kns (knownN b (k + 1)) = kns (knownN b k) ++ [[vi (idsB b)[k].e, vi (idsB b)[k].n, vi (idsB b)[k].k, vi (getB b (idsB b)[k]).cmd.client, vi (getB b (idsB b)[k]).cmd.seq, vi (getB b (idsB b)[k]).cmd.op, vs (getB b (idsB b)[k]).cmd.path, vs (getB b (idsB b)[k]).cmd.value, vi (getB b (idsB b)[k]).cmd.version, vi (getB b (idsB b)[k]).cmd.a, vi (getB b (idsB b)[k]).cmd.b, vi (getB b (idsB b)[k]).att.seq, .list false 3 (idr (getB b (idsB b)[k]).att.deps)]] := by
        rw [e2]; exact e3.symm
      simp -implicitDefEqProofs -dsimp only [go_sem, h1, hlt, e1, c1, hm]
      refine hN (k + 1, .box [vi (idsB b)[k].e, vi (idsB b)[k].n, vi (idsB b)[k].k], .box (insL (getB b (idsB b)[k]))) _ (by dsimp only; omega) (by dsimp only; omega) ?_
      simp -implicitDefEqProofs -dsimp only [go_sem, wrap_succ (show k < 9223372036854775807 by omega), e4]
    · rw [if_neg c1] at e2
      simp -implicitDefEqProofs -dsimp only [go_sem, h1, hlt, e1, c1]
      refine hN (k + 1, .box [vi (idsB b)[k].e, vi (idsB b)[k].n, vi (idsB b)[k].k], .box (insL (getB b (idsB b)[k]))) _ (by dsimp only; omega) (by dsimp only; omega) ?_
      simp -implicitDefEqProofs -dsimp only [go_sem, wrap_succ (show k < 9223372036854775807 by omega), e2]
  · have h1 : ¬ ((k : Int) < ((idsB b).length : Int)) := by omega
    have e2 : knownN b k = knownB b := by unfold knownN knownB; rw [List.take_of_length_le (by omega)]
    simp -implicitDefEqProofs -dsimp only [go_sem, h1, e2]
theorem member_lim {i j : Nat} {b : Bk} (H : AtB h i j b) (hl : b.con.nodes.length ≤ 1048576) (n : Int) : lim Tryz.prog cfg 38 [vi n, .eptr [.ptr i 0]] h = some (vb (memB b n), h) := by
  refine lim_fun fun38 rfl (by simp) rfl ?_
  delta cd38
  have e1 := hasC_lim (h := h) b.con.epoch b.con.nodes n (by omega)
  simp -implicitDefEqProofs -dsimp only [go_sem, H.obj, e1]
  simp [memB]
set_option maxHeartbeats 4000000 in
theorem right_lim {i j : Nat} {b : Bk} (H : AtB h i j b) (hl : b.con.nodes.length ≤ 1048576) (m : Mes) (hm : m.ins.att.deps.length ≤ 1048576) : lim Tryz.prog cfg 15 [.ptr i 0, mesD m] h = some (vb (rightB b m), h) := by
  refine lim_fun fun15 rfl (by simp) rfl ?_
  delta cd15
  have e1 := member_lim H hl m.frm
  have e2 := member_lim H hl m.to
  have e3 := member_lim H hl m.id.n
  have e4 := validD_lim (h := h) m.id
  have e5 := validB_lim (h := h) m.bal
  have e6 := validB_lim (h := h) m.ins.vot
  have e7 := validA_lim (h := h) m.id m.ins.att (by omega)
  unfold rightB
  by_cases c0 : m.to = b.node
  · cases c1 : memB b m.frm with
    | false => rw [c1] at e1; simp -implicitDefEqProofs -dsimp only [go_sem, H.obj, eq_true c0, e1]; simp
    | true =>
    cases c2 : memB b m.to with
    | false => rw [c1] at e1; rw [c2] at e2; simp -implicitDefEqProofs -dsimp only [go_sem, H.obj, eq_true c0, e1, e2]; simp
    | true =>
    cases c3 : memB b m.id.n with
    | false => rw [c1] at e1; rw [c2] at e2; rw [c3] at e3; simp -implicitDefEqProofs -dsimp only [go_sem, postC_path2, H.obj, eq_true c0, e1, e2, e3]; simp
    | true =>
    rw [c1] at e1; rw [c2] at e2; rw [c3] at e3
    cases c4 : validI m.id with
    | false => rw [c4] at e4; simp -implicitDefEqProofs -dsimp only [go_sem, postC_path2, H.obj, eq_true c0, e1, e2, e3, e4]; simp
    | true =>
    rw [c4] at e4
    by_cases c5 : m.id.e = b.con.epoch
    · cases c6 : balB m.bal with
      | false => rw [c6] at e5; simp -implicitDefEqProofs -dsimp only [go_sem, postC_path2, H.obj, eq_true c0, e1, e2, e3, e4, eq_true c5, e5]; simp
      | true =>
      rw [c6] at e5
      cases c7 : balB m.ins.vot with
      | false => rw [c7] at e6; simp -implicitDefEqProofs -dsimp only [go_sem, postC_path2, H.obj, eq_true c0, e1, e2, e3, e4, eq_true c5, e5, e6]; simp
      | true =>
      rw [c7] at e6
      cases c8 : validA m.id m.ins.att <;> rw [c8] at e7 <;> simp -implicitDefEqProofs -dsimp only [go_sem, postC_path2, H.obj, eq_true c0, e1, e2, e3, e4, eq_true c5, e5, e6, e7] <;> simp
    · simp -implicitDefEqProofs -dsimp only [go_sem, postC_path2, H.obj, eq_true c0, e1, e2, e3, e4, eq_false c5]
      simp
  · simp -implicitDefEqProofs -dsimp only [go_sem, H.obj, eq_false c0]
    simp
end Go.DS

/-
  Walks: how a book hears.
-/
namespace Go.DS
open Go Go.Proofs
set_option maxRecDepth 100000
set_option linter.unusedVariables false
set_option linter.unusedSimpArgs false
variable {h : DHeap}
theorem answer_lim {i j : Nat} {b : Bk} (H : AtB h i j b) (m : Mes) (k : Int) (x : Ins) : lim Tryz.prog cfg 44 [.ptr i 0, mesD m, vi k, insD x] h = some (.list false 27 (mess [ansB b m k x]), h) := by
  refine lim_fun fun44 rfl (by simp) rfl ?_
  delta cd44
  simp -implicitDefEqProofs -dsimp only [go_sem, H.obj]
  rfl
theorem keep_lim {i j : Nat} {b : Bk} (H : AtB h i j b) (m : Mes) (k : Int) (x : Ins) (hx : x.att.deps.length ≤ 1048576) : lim Tryz.prog cfg 82 [.ptr i 0, mesD m, vi k, insD x] h = some (.list false 27 (mess (keepB b m k x).1), h.set j (bookM (keepB b m k x).2)) := by
  have H2 : AtB (h.set j (bookM (setB b m.id x))) i j (setB b m.id x) := H.set (aset m.id x b.m)
  have g : getB (setB b m.id x) m.id = x := by rw [get_set, if_pos rfl]
  have e1 := set_lim H m.id x hx
  have e2 := get_lim H2 m.id (by rw [g]; exact hx)
  rw [g] at e2
  have e3 : lim Tryz.prog cfg 44 [.ptr i 0, mesD m, vi k, insD x] (h.set j (bookM (setB b m.id x))) = some (.list false 27 (mess [ansB b m k x]), h.set j (bookM (setB b m.id x))) := answer_lim H2 m k x
  refine lim_fun fun82 rfl (by simp) rfl ?_
  delta cd82
  simp -implicitDefEqProofs -dsimp only [go_sem, postC_path2, Nat.reduceDiv, e1, e2, e3]
  exact ⟨rfl, rfl⟩
theorem accept_lim {i j : Nat} {b : Bk} (H : AtB h i j b) (m : Mes) (hm : m.ins.att.deps.length ≤ 1048576) (x : Ins) : lim Tryz.prog cfg 66 [.ptr i 0, mesD m, insD x] h = some (.list false 27 (mess (acceptB b m x).1), h.set j (bookM (acceptB b m x).2)) := by
  have e1 := keep_lim H m 3 ⟨2, m.bal, m.bal, m.ins.cmd, m.ins.att⟩ hm
  refine lim_fun fun66 rfl (by simp) rfl ?_
  delta cd66
  simp -implicitDefEqProofs -dsimp only [go_sem, postC_path2, e1]
  exact ⟨rfl, rfl⟩
theorem prepare_lim {i j : Nat} {b : Bk} (H : AtB h i j b) (m : Mes) (x : Ins) (hx : x.att.deps.length ≤ 1048576) : lim Tryz.prog cfg 67 [.ptr i 0, mesD m, insD x] h = some (.list false 27 (mess (prepareB b m x).1), h.set j (bookM (prepareB b m x).2)) := by
  have e1 := keep_lim H m 6 { x with pro := m.bal } hx
  refine lim_fun fun67 rfl (by simp) rfl ?_
  delta cd67
  simp -implicitDefEqProofs -dsimp only [go_sem, postC_path2, e1]
  exact ⟨rfl, rfl⟩
@[go_sem] theorem eqs_bal (x y : Bal) : eqs [0, 0] [vi x.no, vi x.node] [vi y.no, vi y.node] = some (decide (x = y)) := by
  rw [eqs_int, eqs_int, eqs_nil]
  simp only [Option.map_some, Bool.and_true]
  congr 1
  rw [Bool.eq_iff_iff]
  obtain ⟨a, b⟩ := x
  obtain ⟨c, d⟩ := y
  simp
theorem set_same15 {h : DHeap} {j : Nat} {o : DObj} (e : h[j]? = some o) : h.set j o = h := by
  obtain ⟨hj, rfl⟩ := List.getElem?_eq_some_iff.1 e
  exact List.set_getElem_self hj
theorem same_bookM {i j : Nat} {b : Bk} (H : AtB h i j b) : h.set j (bookM b) = h := set_same15 H.m
set_option maxHeartbeats 2000000 in
theorem pre_lim {i j n : Nat} {b : Bk} (H : AtB h i j b) (O : BkOK n b) (hn : n ≤ 99999) (m : Mes) (hm : MesOK m) (x : Ins) (hx : x.att.deps.length ≤ 1048576) : lim Tryz.prog cfg 65 [.ptr i 0, mesD m, insD x] h = some (.list false 27 (mess (preB b m x).1), h.set j (bookM (preB b m x).2)) := by
  have h1 := hm.path
  have h2 := hm.deps
  have hs := same_bookM H
  have key : ¬ (1 ≤ x.st ∧ x.vot = m.bal) → lim Tryz.prog cfg 65 [.ptr i 0, mesD m, insD x] h = some (.list false 27 (mess (preB b m x).1), h.set j (bookM (preB b m x).2)) := fun hc => by
    have e : preB b m x = keepB b m 1 ⟨1, m.bal, m.bal, m.ins.cmd, mergeP m.ins.att (localP (knownB b) m.id m.ins.cmd)⟩ := by unfold preB; rw [if_neg hc]
    have hl := knownB_len b
    have hn2 := O.len
    obtain ⟨l1, l2, l3⟩ := local_ok O m.id m.ins.cmd
    have l4 := merge_len m.ins.att (localP (knownB b) m.id m.ins.cmd)
    have e1 := known_lim H O (by omega)
    have e2 := fun own => local_lim (h := h) own (knownB b) m.id m.ins.cmd (by omega) (fun y hy => by
      obtain ⟨z, hz, q1, q2⟩ := knownB_ok O y hy
      have := hz.path
      have := hz.seq1
      rw [q1, q2]
      dsimp only at *
      omega) (by omega)
    have e3 := merge_lim (h := h) m.ins.att (localP (knownB b) m.id m.ins.cmd) (by omega)
    have e4 := keep_lim H m 1 ⟨1, m.bal, m.bal, m.ins.cmd, mergeP m.ins.att (localP (knownB b) m.id m.ins.cmd)⟩ (by dsimp only; omega)
    rw [← e] at e4
    generalize preB b m x = r at *
    refine lim_fun fun65 rfl (by simp) rfl ?_
    delta cd65
    by_cases c1 : 1 ≤ x.st
    · have c2 : ¬ x.vot = m.bal := fun q => hc ⟨c1, q⟩
      simp -implicitDefEqProofs -dsimp only [go_sem, wp_RD, postC_path2, Nat.reduceDiv, c1, eq_false c2, e1, e2, e3, e4]
    · simp -implicitDefEqProofs -dsimp only [go_sem, wp_RD, postC_path2, Nat.reduceDiv, c1, e1, e2, e3, e4]
  by_cases c1 : 1 ≤ x.st
  · by_cases c2 : x.vot = m.bal
    · by_cases c3 : x.st = 1
      · have e1 := answer_lim H m 1 x
        have e : preB b m x = ([ansB b m 1 x], b) := by unfold preB; rw [if_pos ⟨c1, c2⟩, if_neg (by simp [c3])]
        rw [e]
        refine lim_fun fun65 rfl (by simp) rfl ?_
        delta cd65
        simp -implicitDefEqProofs -dsimp only [go_sem, postC_path2, c1, eq_true c2, eq_true c3, e1]
        exact hs.symm
      · have e : preB b m x = ([], b) := by unfold preB; rw [if_pos ⟨c1, c2⟩, if_pos c3]
        rw [e]
        refine lim_fun fun65 rfl (by simp) rfl ?_
        delta cd65
        simp -implicitDefEqProofs -dsimp only [go_sem, postC_path2, c1, eq_true c2, eq_false c3]
        exact ⟨rfl, hs.symm⟩
    · exact key fun q => c2 q.2
  · exact key fun q => c1 q.1
/-- Kinds by which one votes. -/
def votesM : List (Int × FuncId) := [(0, 65), (2, 66), (5, 67)]
abbrev fnB (f : FuncId) : DV := .fn (.func f) [] []
theorem votes_lim : lim Tryz.prog cfg 43 [] h = some (.mp h.length, h ++ [.map (amap vi fnB votesM)]) := by
  refine lim_fun fun43 rfl (by simp) rfl ?_
  delta cd43
  have hm : ∀ (es : List (DV × DV)) (N : List (DV × DV) → Prop), MapP (h ++ [.map es]) h.length N = N es := fun es N => by simp [MapP]
  have hset : ∀ es es' : List (DV × DV), (h ++ [DObj.map es]).set h.length (.map es') = h ++ [.map es'] := fun es es' => by simp
  simp -implicitDefEqProofs -dsimp only [go_sem, hm, hset]
  show (h ++ [DObj.map (amap vi fnB votesM)]) = h ++ [DObj.map (amap vi fnB votesM)]
  rfl
theorem find_vote (k : Int) : findD [0] (vi k) (amap vi fnB votesM) = some ((aget k votesM).map fnB) := find_amap (V := fnB) (eqK_int .i64) k votesM
def HBb (h : DHeap) : Prop := h.all (belowO h.length) = true
theorem below_book (n : Nat) (b : Bk) : belowO n (bookM b) = true := by
  simp only [belowO, amap, List.all_map, List.all_eq_true]
  intro e he
  simp only [Function.comp, below, below.all, below_idr, Bool.and_self]
theorem HBb.set {h : DHeap} (B : HBb h) (j : Nat) (b : Bk) : HBb (h.set j (bookM b)) := by
  unfold HBb at *
  rw [List.length_set]
  rw [List.all_eq_true] at *
  intro o ho
  rcases List.mem_or_eq_of_mem_set ho with h1 | h1
  · exact B o h1
  · rw [h1]; exact below_book _ _
theorem gcB (B : HBb h) (v : DObj) (j : Nat) (hj : j < h.length) (b : Bk) (l : List Mes) (o : Bool) : (below h.length (.list o 27 (mess l)) && (((h ++ [v]).set j (bookM b)).take h.length).all (belowO h.length)) = true ∧ h.length ≤ ((h ++ [v]).set j (bookM b)).length ∧ ((h ++ [v]).set j (bookM b)).take h.length = h.set j (bookM b) := by
  have e : ((h ++ [v]).set j (bookM b)).take h.length = h.set j (bookM b) := by
    rw [List.set_append_left _ _ hj, List.take_left' (by simp)]
  refine ⟨?_, by simp, e⟩
  have e2 := B.set j b
  unfold HBb at e2
  rw [List.length_set] at e2
  rw [e, e2]
  simp only [below, below_mess, Bool.and_self]
theorem gcB0 (B : HBb h) (v : List DObj) (l : List Mes) (o : Bool) : (below h.length (.list o 27 (mess l)) && ((h ++ v).take h.length).all (belowO h.length)) = true ∧ h.length ≤ (h ++ v).length ∧ (h ++ v).take h.length = h := by
  have e : (h ++ v).take h.length = h := by simp
  refine ⟨?_, by simp, e⟩
  have e2 := B
  unfold HBb at e2
  rw [e, e2]
  simp only [below, below_mess, Bool.and_self]
set_option maxHeartbeats 4000000 in
theorem hear_lim {i j n : Nat} {b : Bk} (H : AtB h i j b) (O : BkOK n b) (B : HBb h) (hn : n ≤ 99999) (hc : b.con.nodes.length ≤ 1048576) (m : Mes) (hm : MesOK m) :
    ∃ o, lim Tryz.prog cfg 16 [.ptr i 0, mesD m] h = some (.list o 27 (mess (hearB b m).1), h.set j (bookM (hearB b m).2)) ∧ ((hearB b m).1 ≠ [] → o = false) := by
  have h1 := hm.path
  have h2 := hm.deps
  have hs := same_bookM H
  have hsm := get_small O m.id
  have H2 := H.app [.map (amap vi fnB votesM)]
  have hj := H.lt.2
  have e1 := right_lim H hc m (by omega)
  have e2 := get_lim H m.id (by omega)
  have e3 := votes_lim (h := h)
  have e4 := find_vote m.kind
  have mp4 := mapP_new h (amap vi fnB votesM)
  by_cases c0 : rightB b m = false
  · rw [hear_wrong c0]
    rw [c0] at e1
    refine ⟨true, lim_fung fun16 rfl rfl (by simp) rfl ?_, fun hh => (hh rfl).elim⟩
    delta cd16
    simp -implicitDefEqProofs -dsimp only [go_sem, e1]
    have g := gcB0 B [] [] true
    rw [List.append_nil] at g
    refine ⟨rfl, g.1, Nat.le_refl _, g.2.2.trans hs.symm⟩
  have c0' : rightB b m = true := by simpa using c0
  rw [c0'] at e1
  by_cases c1 : m.kind = 4 ∧ (getB b m.id).st ≠ 3
  · have e : hearB b m = ([], setB b m.id ⟨3, (getB b m.id).pro, m.ins.vot, m.ins.cmd, m.ins.att⟩) := by unfold hearB; rw [if_neg c0, if_pos c1]
    rw [e]
    have e5 := set_lim H2 m.id ⟨3, (getB b m.id).pro, m.ins.vot, m.ins.cmd, m.ins.att⟩ (by dsimp only; omega)
    have e6 : aget m.kind votesM = none := by rw [c1.1]; rfl
    rw [e6] at e4
    refine ⟨true, lim_fung fun16 rfl rfl (by simp) rfl ?_, fun hh => (hh rfl).elim⟩
    delta cd16
    simp -implicitDefEqProofs -dsimp only [go_sem, wp_RD, postC_path2, Nat.reduceDiv, Option.map_none, Option.map_some, Option.getD_none, Option.getD_some, e1, e2, e3, e4, mp4, eq_true c1.1, eq_false c1.2, e5]
    exact ⟨rfl, gcB B _ j hj _ [] true⟩
  by_cases c2 : voteB m.kind = false
  · have e : hearB b m = ([], b) := by unfold hearB; rw [if_neg c0, if_neg c1, if_pos c2]
    rw [e]
    have e6 : aget m.kind votesM = none := by
      simp only [voteB, Bool.or_eq_false_iff, decide_eq_false_iff_not] at c2
      simp only [votesM, aget]
      rw [if_neg (by omega), if_neg (by omega), if_neg (by omega)]
    rw [e6] at e4
    have g0 := gcB0 B [.map (amap vi fnB votesM)] [] true
    refine ⟨true, lim_fung fun16 rfl rfl (by simp) rfl ?_, fun hh => (hh rfl).elim⟩
    delta cd16
    by_cases c3 : m.kind = 4
    · have c4 : (getB b m.id).st = 3 := Classical.byContradiction fun q => c1 ⟨c3, q⟩
      simp -implicitDefEqProofs -dsimp only [go_sem, wp_RD, postC_path2, Nat.reduceDiv, Option.map_none, Option.map_some, Option.getD_none, Option.getD_some, e1, e2, e3, e4, mp4, eq_true c3, eq_true c4]
      exact ⟨rfl, g0.1, g0.2.1, g0.2.2.trans hs.symm⟩
    · simp -implicitDefEqProofs -dsimp only [go_sem, wp_RD, postC_path2, Nat.reduceDiv, Option.map_none, Option.map_some, Option.getD_none, Option.getD_some, e1, e2, e3, e4, mp4, eq_false c3]
      exact ⟨rfl, g0.1, g0.2.1, g0.2.2.trans hs.symm⟩
  have c2' : voteB m.kind = true := by simpa using c2
  have k4 : ¬ m.kind = 4 := fun e => by rw [e] at c2'; exact absurd c2' (by decide)
  obtain ⟨f, hf⟩ : ∃ f, aget m.kind votesM = some f := by
    simp only [voteB, Bool.or_eq_true, decide_eq_true_eq] at c2'
    rcases c2' with (e | e) | e <;> rw [e] <;> exact ⟨_, rfl⟩
  have e4f := e4
  rw [hf] at e4
  by_cases c3 : (getB b m.id).st = 3
  · have e : hearB b m = ([ansB b m 4 (getB b m.id)], b) := by unfold hearB; rw [if_neg c0, if_neg c1, if_neg c2, if_pos c3]
    rw [e]
    have e5 := answer_lim H2 m 4 (getB b m.id)
    have g0 := gcB0 B [.map (amap vi fnB votesM)] [ansB b m 4 (getB b m.id)] false
    refine ⟨false, lim_fung fun16 rfl rfl (by simp) rfl ?_, fun _ => rfl⟩
    delta cd16
    simp -implicitDefEqProofs -dsimp only [go_sem, wp_RD, postC_path2, Nat.reduceDiv, Option.map_none, Option.map_some, Option.getD_none, Option.getD_some, e1, e2, e3, e4, mp4, eq_false k4, eq_true c3, e5]
    exact ⟨g0.1, g0.2.1, g0.2.2.trans hs.symm⟩
  cases c5 : lessB m.bal (getB b m.id).pro with
  | true =>
    have e : hearB b m = ([ansB b { m with bal := (getB b m.id).pro } 7 ins0], b) := by unfold hearB; rw [if_neg c0, if_neg c1, if_neg c2, if_neg c3, if_pos c5]
    rw [e]
    have e5 : lim Tryz.prog cfg 44 [.ptr i 0, mesD { m with bal := (getB b m.id).pro }, vi 7, .agg [vi 0, vi 0, vi 0, vi 0, vi 0, vi 0, vi 0, vi 0, vs [], vs [], vi 0, vi 0, vi 0, vi 0, .list false 3 []]] (h ++ [.map (amap vi fnB votesM)]) =
      some (.list false 27 (mess [ansB b { m with bal := (getB b m.id).pro } 7 ins0]), h ++ [.map (amap vi fnB votesM)]) := answer_lim H2 { m with bal := (getB b m.id).pro } 7 ins0
    have e6 := lessB_lim (h := h ++ [.map (amap vi fnB votesM)]) m.bal (getB b m.id).pro
    rw [c5] at e6
    have g0 := gcB0 B [.map (amap vi fnB votesM)] [ansB b { m with bal := (getB b m.id).pro } 7 ins0] false
    refine ⟨false, lim_fung fun16 rfl rfl (by simp) rfl ?_, fun _ => rfl⟩
    delta cd16
    simp -implicitDefEqProofs -dsimp only [go_sem, wp_RD, postC_path2, Nat.reduceDiv, Option.map_none, Option.map_some, Option.getD_none, Option.getD_some, e1, e2, e3, e4, mp4, eq_false k4, eq_false c3, e6, e5]
    exact ⟨g0.1, g0.2.1, g0.2.2.trans hs.symm⟩
  | false =>
    have e6 := lessB_lim (h := h ++ [.map (amap vi fnB votesM)]) m.bal (getB b m.id).pro
    rw [c5] at e6
    have e : hearB b m = if m.kind = 0 then preB b m (getB b m.id) else if m.kind = 2 then acceptB b m (getB b m.id) else prepareB b m (getB b m.id) := by
      unfold hearB; rw [if_neg c0, if_neg c1, if_neg c2, if_neg c3, if_neg (by rw [c5]; simp)]
    by_cases c6 : m.kind = 0
    · rw [if_pos c6] at e
      rw [e]
      have e5 := pre_lim H2 O hn m hm (getB b m.id) (by omega)
      rw [c6] at hf
      cases hf
      refine ⟨false, lim_fung fun16 rfl rfl (by simp) rfl ?_, fun _ => rfl⟩
      delta cd16
      simp -implicitDefEqProofs -dsimp only [go_sem, wp_RD, postC_path2, Nat.reduceDiv, Option.map_none, Option.map_some, Option.getD_none, Option.getD_some, e1, e2, e3, e4, mp4, eq_false k4, eq_false c3, e6, e5]
      exact gcB B _ j hj _ _ false
    · rw [if_neg c6] at e
      by_cases c7 : m.kind = 2
      · rw [if_pos c7] at e
        rw [e]
        have e5 := accept_lim H2 m (by omega) (getB b m.id)
        rw [c7] at hf
        cases hf
        refine ⟨false, lim_fung fun16 rfl rfl (by simp) rfl ?_, fun _ => rfl⟩
        delta cd16
        simp -implicitDefEqProofs -dsimp only [go_sem, wp_RD, postC_path2, Nat.reduceDiv, Option.map_none, Option.map_some, Option.getD_none, Option.getD_some, e1, e2, e3, e4, mp4, eq_false k4, eq_false c3, e6, e5]
        exact gcB B _ j hj _ _ false
      · rw [if_neg c7] at e
        have c8 : m.kind = 5 := by
          simp only [voteB, Bool.or_eq_true, decide_eq_true_eq] at c2'
          omega
        rw [e]
        have e5 := prepare_lim H2 m (getB b m.id) (by omega)
        rw [c8] at hf
        cases hf
        refine ⟨false, lim_fung fun16 rfl rfl (by simp) rfl ?_, fun _ => rfl⟩
        delta cd16
        simp -implicitDefEqProofs -dsimp only [go_sem, wp_RD, postC_path2, Nat.reduceDiv, Option.map_none, Option.map_some, Option.getD_none, Option.getD_some, e1, e2, e3, e4, mp4, eq_false k4, eq_false c3, e6, e5]
        exact gcB B _ j hj _ _ false
end Go.DS

/-
  Walks: the laws of accept: what they share.
-/
namespace Go.DS
open Go Go.Proofs
set_option maxRecDepth 100000
set_option linter.unusedVariables false
set_option linter.unusedSimpArgs false
def cd58 : Cd := .seq (R [c0 1 (.new false (.s 0)), cb 2 (.tk (.c (kb false)))] [1]) (.seq (R [c0 7 (.mov 0 (.s 1)), c0 8 (.mov 1 (.s 7)), c0 9 (.ld false 3 (.s 8)), c0 10 (.len 1 (.s 9)), c0 11 (.mov 2 (.s 1)), c0 12 (.ld false 5 (.s 11)), c0 13 (.len 1 (.s 12)), c0 14 (.bin .add .any (.s 10) (.s 13)), c0 15 (.mov 3 (.s 1)), c0 16 (.ld false 8 (.s 15)), c0 17 (.len 1 (.s 16)), c0 18 (.bin .add .any (.s 14) (.s 17)), c0 3 (.mv (.s 18))] [1, 3]) (.seq (.seq (R [c0 4 (.tk (.c (ki .i64 0)))] [1, 3, 4]) (.block 0 (LP [1, 3, 4] (.seq (.seq (R [c0 19 (.mv (.s 4)), c0 20 (.mov 2 (.s 1)), c0 21 (.ld false 5 (.s 20)), c0 22 (.len 1 (.s 21)), cb 23 (.bin .lss .any (.s 19) (.s 22)), cb 24 (.mv (.s 23)), cg 25 24 true (.mv (.s 4)), ch 26 24 true (.bin .lss .any (.s 25) (.c (ki .i64 3000))), cb 27 (.pick (.s 24) (.s 26) (.c (kb false)))] [1, 3, 4, 27]) (.ite (.s 27) (.skip) (.exit 0))) (.seq (.block 1 (RD [cd (some 30) false none (.mv (.s 3)) false false [3], cd (some 31) false none (.mov 2 (.s 1)) false false [1], cd (some 32) false none (.ld false 5 (.s 31)) false false [31], cd (some 33) false none (.mv (.s 4)) false false [4], cd (some 34) false none (.ixp 3 (.s 32) (.s 33)) false false [32, 33], cd (some 35) false none (.mov 0 (.s 34)) false false [34], cd (some 36) false none (.ld false 1 (.s 35)) false false [35], cd (some 37) false none (.len 0 (.s 36)) false false [36], cd (some 38) false none (.bin .add .any (.s 30) (.s 37)) false false [30, 37], cd (some 39) false none (.mov 2 (.s 1)) false false [1], cd (some 40) false none (.ld false 5 (.s 39)) false false [39], cd (some 41) false none (.mv (.s 4)) false false [4], cd (some 42) false none (.ixp 3 (.s 40) (.s 41)) false false [40, 41], cd (some 43) false none (.mov 1 (.s 42)) false false [42], cd (some 44) false none (.ld false 1 (.s 43)) false false [43], cd (some 45) false none (.len 0 (.s 44)) false false [44], cd (some 46) false none (.bin .add .any (.s 38) (.s 45)) false false [38, 45], cd (some 3) false none (.mv (.s 46)) false false [46]] [1, 3, 4] [])) (R [c0 28 (.mv (.s 4)), c0 29 (.bin .add .any (.s 28) (.c (ki .i64 1))), c0 4 (.tk (.s 29))] [1, 3, 4])))))) (.seq (.seq (R [c0 5 (.tk (.c (ki .i64 0)))] [1, 3, 5]) (.block 2 (LP [1, 3, 5] (.seq (.seq (R [c0 47 (.mv (.s 5)), c0 48 (.mov 3 (.s 1)), c0 49 (.ld false 8 (.s 48)), c0 50 (.len 1 (.s 49)), cb 51 (.bin .lss .any (.s 47) (.s 50)), cb 52 (.mv (.s 51)), cg 53 52 true (.mv (.s 5)), ch 54 52 true (.bin .lss .any (.s 53) (.c (ki .i64 3000))), cb 55 (.pick (.s 52) (.s 54) (.c (kb false)))] [1, 3, 5, 55]) (.ite (.s 55) (.skip) (.exit 2))) (.seq (.block 3 (.seq (RD [cd (some 58) false none (.mv (.s 3)) false false [3], cd (some 59) false none (.mov 3 (.s 1)) false false [1], cd (some 60) false none (.ld false 8 (.s 59)) false false [59], cd (some 61) false none (.mv (.s 5)) false false [5], cd (some 62) false none (.ixp 6 (.s 60) (.s 61)) false false [60, 61], cd (some 63) false none (.mov 2 (.s 62)) false false [62], cd (some 64) false none (.mov 1 (.s 63)) false false [63], cd (some 65) false none (.ld false 1 (.s 64)) false false [64], cd (some 66) false none (.len 0 (.s 65)) false false [65], cd (some 67) false none (.bin .add .any (.s 58) (.s 66)) false false [58, 66], cd (some 68) false none (.mov 3 (.s 1)) false false [1], cd (some 69) false none (.ld false 8 (.s 68)) false false [68], cd (some 70) false none (.mv (.s 5)) false false [5], cd (some 71) false none (.ixp 6 (.s 69) (.s 70)) false false [69, 70], cd (some 72) false none (.mov 2 (.s 71)) false false [71], cd (some 73) false none (.mov 3 (.s 72)) false false [72], cd (some 74) false none (.ld false 3 (.s 73)) false false [73], cd (some 75) false none (.len 1 (.s 74)) false false [74], cd (some 76) false none (.bin .add .any (.s 67) (.s 75)) false false [67, 75], cd (some 3) false none (.mv (.s 76)) false false [76]] [1, 3, 5] []) (.seq (R [c0 6 (.tk (.c (ki .i64 0)))] [1, 3, 5, 6]) (.block 4 (LP [1, 3, 5, 6] (.seq (.seq (R [c0 77 (.mv (.s 6)), c0 78 (.mov 3 (.s 1)), c0 79 (.ld false 8 (.s 78)), c0 80 (.mv (.s 5)), c0 81 (.ixp 6 (.s 79) (.s 80)), c0 82 (.mov 2 (.s 81)), c0 83 (.mov 3 (.s 82)), c0 84 (.ld false 3 (.s 83)), c0 85 (.len 1 (.s 84)), cb 86 (.bin .lss .any (.s 77) (.s 85)), cb 87 (.mv (.s 86)), cg 88 87 true (.mv (.s 6)), ch 89 87 true (.bin .lss .any (.s 88) (.c (ki .i64 3000))), cb 90 (.pick (.s 87) (.s 89) (.c (kb false)))] [1, 3, 5, 6, 90]) (.ite (.s 90) (.skip) (.exit 4))) (.seq (.block 5 (R [c0 93 (.mv (.s 3)), c0 94 (.mov 3 (.s 1)), c0 95 (.ld false 8 (.s 94)), c0 96 (.mv (.s 5)), c0 97 (.ixp 6 (.s 95) (.s 96)), c0 98 (.mov 2 (.s 97)), c0 99 (.mov 3 (.s 98)), c0 100 (.ld false 3 (.s 99)), c0 101 (.mv (.s 6)), c0 102 (.ixp 1 (.s 100) (.s 101)), c0 103 (.ld false 1 (.s 102)), c0 104 (.len 0 (.s 103)), c0 105 (.bin .add .any (.s 93) (.s 104)), c0 3 (.mv (.s 105))] [1, 3, 5, 6])) (R [c0 91 (.mv (.s 6)), c0 92 (.bin .add .any (.s 91) (.c (ki .i64 1))), c0 6 (.tk (.s 92))] [1, 3, 5, 6])))))))) (R [c0 56 (.mv (.s 5)), c0 57 (.bin .add .any (.s 56) (.c (ki .i64 1))), c0 5 (.tk (.s 57))] [1, 3, 5])))))) (.seq (R [c0 106 (.mv (.s 3)), cb 107 (.bin .lss .any (.s 106) (.c (ki .i64 3000))), cb 2 (.tk (.s 107))] [1, 2]) (.ret)))))
theorem fun58 : Fun Tryz.prog cfg 58 108 cd58 [.s 2] := ⟨rfl, Tryz.f58, _, Tryz.func58, rfl, rfl, by kernel_rfl, by kernel_rfl⟩
@[go_sem] theorem ok58 : calleeOK Tryz.prog 58 = true := by kernel_rfl
@[go_sem] theorem ex58 : (cfg.ext 58).isSome = false := rfl
def cd32 : Cd := .seq (R [c0 1 (.new false (.s 0)), cb 2 (.tk (.c (kb false)))] [1]) (.seq (R [c0 4 (.mov 8 (.s 1)), c0 5 (.mov 5 (.s 4)), c0 6 (.mov 3 (.s 5)), c0 7 (.ld false 1 (.s 6)), c0 8 (.len 0 (.s 7)), c0 9 (.mov 8 (.s 1)), c0 10 (.mov 5 (.s 9)), c0 11 (.mov 4 (.s 10)), c0 12 (.ld false 1 (.s 11)), c0 13 (.len 0 (.s 12)), c0 14 (.bin .add .any (.s 8) (.s 13)), c0 15 (.mov 8 (.s 1)), c0 16 (.mov 13 (.s 15)), c0 17 (.mov 1 (.s 16)), c0 18 (.ld false 5 (.s 17)), c0 19 (.len 1 (.s 18)), c0 20 (.bin .add .any (.s 14) (.s 19)), c0 3 (.tk (.s 20))] [1, 3]) (.seq (R [c0 21 (.mv (.s 3)), cb 22 (.bin .lss .any (.s 21) (.c (ki .i64 3000))), cb 23 (.mv (.s 22)), cg 24 23 true (.mov 23 (.s 1)), cg 25 23 true (.ld true 4 (.s 24)), ch 26 23 true (.call none (.c (kf 58)) [(.s 25)]), cb 27 (.pick (.s 23) (.s 26) (.c (kb false))), cb 2 (.tk (.s 27))] [1, 2]) (.ret)))
theorem fun32 : Fun Tryz.prog cfg 32 28 cd32 [.s 2] := ⟨rfl, Tryz.f32, _, Tryz.func32, rfl, rfl, by kernel_rfl, by kernel_rfl⟩
@[go_sem] theorem ok32 : calleeOK Tryz.prog 32 = true := by kernel_rfl
@[go_sem] theorem ex32 : (cfg.ext 32).isSome = false := rfl
def cd12 : Cd := .seq (R [cb 2 (.tk (.c (kb false)))] [0]) (.seq (.seq (R [c0 3 (.tk (.c (ki .i64 0)))] [0, 3]) (.block 0 (LP [0, 3] (.seq (.seq (R [c0 4 (.mv (.s 3)), c0 5 (.mv (.s 0)), c0 6 (.len 1 (.s 5)), cb 7 (.bin .lss .any (.s 4) (.s 6)), cb 8 (.mv (.s 7)), cg 9 8 true (.mv (.s 3)), ch 10 8 true (.bin .leq .any (.s 9) (.c (ki .i64 40))), cb 11 (.pick (.s 8) (.s 10) (.c (kb false)))] [0, 3, 11]) (.ite (.s 11) (.skip) (.exit 0))) (.seq (.block 1 (.seq (R (c0 14 (.mv (.s 0)) :: c0 15 (.mv (.s 3)) :: c0 16 (.ixp 27 (.s 14) (.s 15)) :: c0 17 (.ld true 27 (.s 16)) :: cb 18 (.call none (.c (kf 32)) [(.s 17)]) :: cb 19 (.un .not (.s 18)) :: cb 20 (.mv (.s 19)) :: cg 21 20 false (.mv (.s 0)) :: cg 22 20 false (.mv (.s 3)) :: cg 23 20 false (.ixp 27 (.s 21) (.s 22)) :: cg 24 20 false (.mov 8 (.s 23)) :: cg 25 20 false (.mov 13 (.s 24)) :: cg 26 20 false (.mov 1 (.s 25)) :: cg 27 20 false (.ld false 5 (.s 26)) :: cg 28 20 false (.len 1 (.s 27)) :: ch 29 20 false (.bin .gtr .any (.s 28) (.c (ki .i64 60))) :: cb 30 (.pick (.s 20) (.c (kb true)) (.s 29)) :: cb 31 (.mv (.s 30)) :: cg 32 31 false (.mv (.s 0)) :: cg 33 31 false (.mv (.s 3)) :: cg 34 31 false (.ixp 27 (.s 32) (.s 33)) :: cg 35 31 false (.mov 8 (.s 34)) :: cg 36 31 false (.mov 5 (.s 35)) :: cg 37 31 false (.mov 3 (.s 36)) :: cg 38 31 false (.ld false 1 (.s 37)) :: cg 39 31 false (.len 0 (.s 38)) :: ch 40 31 false (.bin .gtr .any (.s 39) (.c (ki .i64 300))) :: cb 41 (.pick (.s 31) (.c (kb true)) (.s 40)) :: cb 42 (.mv (.s 41)) :: cg 43 42 false (.mv (.s 0)) :: cg 44 42 false (.mv (.s 3)) :: cg 45 42 false (.ixp 27 (.s 43) (.s 44)) :: cg 46 42 false (.mov 8 (.s 45)) :: cg 47 42 false (.mov 5 (.s 46)) :: cg 48 42 false (.mov 4 (.s 47)) :: cg 49 42 false (.ld false 1 (.s 48)) :: cg 50 42 false (.len 0 (.s 49)) :: ch 51 42 false (.bin .gtr .any (.s 50) (.c (ki .i64 300))) :: cb 52 (.pick (.s 42) (.c (kb true)) (.s 51)) :: []) [0, 3, 52]) (.ite (.s 52) (.seq (R [cb 2 (.tk (.c (kb true)))] [2]) (.ret)) (.skip)))) (R [c0 12 (.mv (.s 3)), c0 13 (.bin .add .any (.s 12) (.c (ki .i64 1))), c0 3 (.tk (.s 13))] [0, 3])))))) (.seq (R [c0 53 (.mv (.s 0)), c0 54 (.len 1 (.s 53)), cb 55 (.bin .gtr .any (.s 54) (.c (ki .i64 40))), cb 2 (.tk (.s 55))] [2]) (.ret)))
theorem fun12 : Fun Tryz.prog cfg 12 56 cd12 [.s 2] := ⟨rfl, Tryz.f12, _, Tryz.func12, rfl, rfl, by kernel_rfl, by kernel_rfl⟩
@[go_sem] theorem ok12 : calleeOK Tryz.prog 12 = true := by kernel_rfl
@[go_sem] theorem ex12 : (cfg.ext 12).isSome = false := rfl
def cd28 : Cd := .seq (R [cb 4 (.tk (.c (kb false)))] [0, 1]) (.seq (.seq (R [c0 6 (.mv (.s 0)), c0 7 (.len 1 (.s 6)), c0 8 (.mv (.s 1)), c0 9 (.len 1 (.s 8)), cb 10 (.bin .neq .any (.s 7) (.s 9))] [0, 1, 10]) (.ite (.s 10) (.seq (R [cb 4 (.tk (.c (kb false)))] [4]) (.ret)) (.skip))) (.seq (.seq (R [c0 5 (.tk (.c (ki .i64 0)))] [0, 1, 5]) (.block 0 (LP [0, 1, 5] (.seq (.seq (R [c0 11 (.mv (.s 5)), c0 12 (.mv (.s 0)), c0 13 (.len 1 (.s 12)), cb 14 (.bin .lss .any (.s 11) (.s 13))] [0, 1, 5, 14]) (.ite (.s 14) (.skip) (.exit 0))) (.seq (.block 1 (.seq (RD [cd (some 17) false none (.mv (.s 0)) false false [0], cd (some 18) false none (.mv (.s 5)) false false [5], cd (some 19) false none (.ixp 3 (.s 17) (.s 18)) false false [17, 18], cd (some 20) false none (.ld true 3 (.s 19)) false false [19], cd (some 21) false none (.mv (.s 1)) false false [1], cd (some 22) false none (.mv (.s 5)) false false [5], cd (some 23) false none (.ixp 3 (.s 21) (.s 22)) false false [21, 22], cd (some 24) false none (.ld true 3 (.s 23)) false false [23], cd (some 25) true none (.bin .neq (.flat [0, 0, 0]) (.s 20) (.s 24)) false false [20, 24]] [0, 1, 5, 25] []) (.ite (.s 25) (.seq (R [cb 4 (.tk (.c (kb false)))] [4]) (.ret)) (.skip)))) (R [c0 15 (.mv (.s 5)), c0 16 (.bin .add .any (.s 15) (.c (ki .i64 1))), c0 5 (.tk (.s 16))] [0, 1, 5])))))) (.seq (R [cb 4 (.tk (.c (kb true)))] [4]) (.ret))))
theorem fun28 : Fun Tryz.prog cfg 28 26 cd28 [.s 4] := ⟨rfl, Tryz.f28, _, Tryz.func28, rfl, rfl, by kernel_rfl, by kernel_rfl⟩
@[go_sem] theorem ok28 : calleeOK Tryz.prog 28 = true := by kernel_rfl
@[go_sem] theorem ex28 : (cfg.ext 28).isSome = false := rfl
def cd19 : Cd := .seq (R [c0 2 (.new false (.s 0)), c0 3 (.new false (.s 1)), cb 4 (.tk (.c (kb false)))] [2, 3]) (.seq (R (c0 5 (.mov 0 (.s 2)) :: c0 6 (.ld false 1 (.s 5)) :: c0 7 (.mov 0 (.s 3)) :: c0 8 (.ld false 1 (.s 7)) :: cb 9 (.bin .eql .any (.s 6) (.s 8)) :: cb 10 (.mv (.s 9)) :: cg 11 10 true (.mov 1 (.s 2)) :: cg 12 10 true (.ld true 2 (.s 11)) :: cg 13 10 true (.mov 1 (.s 3)) :: cg 14 10 true (.ld true 2 (.s 13)) :: ch 15 10 true (.bin .eql (.flat [0, 0]) (.s 12) (.s 14)) :: cb 16 (.pick (.s 10) (.s 15) (.c (kb false))) :: cb 17 (.mv (.s 16)) :: cg 18 17 true (.mov 3 (.s 2)) :: cg 19 17 true (.ld true 2 (.s 18)) :: cg 20 17 true (.mov 3 (.s 3)) :: cg 21 17 true (.ld true 2 (.s 20)) :: ch 22 17 true (.bin .eql (.flat [0, 0]) (.s 19) (.s 21)) :: cb 23 (.pick (.s 17) (.s 22) (.c (kb false))) :: cb 24 (.mv (.s 23)) :: cg 25 24 true (.mov 5 (.s 2)) :: cg 26 24 true (.ld true 8 (.s 25)) :: cg 27 24 true (.mov 5 (.s 3)) :: cg 28 24 true (.ld true 8 (.s 27)) :: ch 29 24 true (.bin .eql (.flat [0, 0, 0, 2, 2, 0, 0, 0]) (.s 26) (.s 28)) :: cb 30 (.pick (.s 24) (.s 29) (.c (kb false))) :: cb 31 (.mv (.s 30)) :: cg 32 31 true (.mov 13 (.s 2)) :: cg 33 31 true (.mov 0 (.s 32)) :: cg 34 31 true (.ld false 1 (.s 33)) :: cg 35 31 true (.mov 13 (.s 3)) :: cg 36 31 true (.mov 0 (.s 35)) :: cg 37 31 true (.ld false 1 (.s 36)) :: ch 38 31 true (.bin .eql .any (.s 34) (.s 37)) :: cb 39 (.pick (.s 31) (.s 38) (.c (kb false))) :: cb 40 (.mv (.s 39)) :: cg 41 40 true (.mov 13 (.s 2)) :: cg 42 40 true (.mov 1 (.s 41)) :: cg 43 40 true (.ld false 5 (.s 42)) :: cg 44 40 true (.mov 13 (.s 3)) :: cg 45 40 true (.mov 1 (.s 44)) :: cg 46 40 true (.ld false 5 (.s 45)) :: ch 47 40 true (.call none (.c (kf 28)) [(.s 43), (.s 46)]) :: cb 48 (.pick (.s 40) (.s 47) (.c (kb false))) :: cb 4 (.tk (.s 48)) :: []) [2, 3, 4]) (.ret))
theorem fun19 : Fun Tryz.prog cfg 19 49 cd19 [.s 4] := ⟨rfl, Tryz.f19, _, Tryz.func19, rfl, rfl, by kernel_rfl, by kernel_rfl⟩
@[go_sem] theorem ok19 : calleeOK Tryz.prog 19 = true := by kernel_rfl
@[go_sem] theorem ex19 : (cfg.ext 19).isSome = false := rfl
def cd18 : Cd := .seq (R [cb 4 (.tk (.c (kb false)))] [0, 1]) (.seq (.seq (R [c0 7 (.mv (.s 0)), c0 8 (.len 1 (.s 7)), c0 9 (.mv (.s 1)), c0 10 (.len 1 (.s 9)), cb 11 (.bin .neq .any (.s 8) (.s 10))] [0, 1, 11]) (.ite (.s 11) (.seq (R [cb 4 (.tk (.c (kb false)))] [4]) (.ret)) (.skip))) (.seq (.seq (R [c0 5 (.tk (.c (ki .i64 0)))] [0, 1, 5]) (.block 0 (LP [0, 1, 5] (.seq (.seq (R [c0 12 (.mv (.s 5)), c0 13 (.mv (.s 0)), c0 14 (.len 1 (.s 13)), cb 15 (.bin .lss .any (.s 12) (.s 14))] [0, 1, 5, 15]) (.ite (.s 15) (.skip) (.exit 0))) (.seq (.block 1 (.seq (RD [cd (some 18) false none (.mv (.s 0)) false false [0], cd (some 19) false none (.mv (.s 5)) false false [5], cd (some 20) false none (.ixp 27 (.s 18) (.s 19)) false false [18, 19], cd (some 21) false none (.mov 8 (.s 20)) false false [20], cd (some 22) false none (.ld true 15 (.s 21)) false false [21], cd (some 23) false none (.mv (.s 1)) false false [1], cd (some 24) false none (.mv (.s 5)) false false [5], cd (some 25) false none (.ixp 27 (.s 23) (.s 24)) false false [23, 24], cd (some 26) false none (.mov 8 (.s 25)) false false [25], cd (some 27) false none (.ld true 15 (.s 26)) false false [26], cd (some 28) true none (.call none (.c (kf 19)) [(.s 22), (.s 27)]) false false [22, 27], cd (some 6) true none (.mv (.s 28)) false false [28]] [0, 1, 5, 6] []) (.seq (RD (cd (some 29) true none (.mv (.s 6)) false false [6] :: cd (some 30) true none (.un .not (.s 29)) false false [29] :: cd (some 31) true none (.mv (.s 30)) false false [30] :: cd (some 32) false (some (31, false)) (.mv (.s 0)) false false [0] :: cd (some 33) false (some (31, false)) (.mv (.s 5)) false false [5] :: cd (some 34) false (some (31, false)) (.ixp 27 (.s 32) (.s 33)) false false [32, 33] :: cd (some 35) false (some (31, false)) (.mov 0 (.s 34)) false false [34] :: cd (some 36) false (some (31, false)) (.ld false 1 (.s 35)) false false [35] :: cd (some 37) false (some (31, false)) (.mv (.s 1)) false false [1] :: cd (some 38) false (some (31, false)) (.mv (.s 5)) false false [5] :: cd (some 39) false (some (31, false)) (.ixp 27 (.s 37) (.s 38)) false false [37, 38] :: cd (some 40) false (some (31, false)) (.mov 0 (.s 39)) false false [39] :: cd (some 41) false (some (31, false)) (.ld false 1 (.s 40)) false false [40] :: cd (some 42) true (some (31, false)) (.bin .neq .any (.s 36) (.s 41)) false false [36, 41] :: cd (some 43) true none (.pick (.s 31) (.c (kb true)) (.s 42)) false false [31, 42] :: cd (some 44) true none (.mv (.s 43)) false false [43] :: cd (some 45) false (some (44, false)) (.mv (.s 0)) false false [0] :: cd (some 46) false (some (44, false)) (.mv (.s 5)) false false [5] :: cd (some 47) false (some (44, false)) (.ixp 27 (.s 45) (.s 46)) false false [45, 46] :: cd (some 48) false (some (44, false)) (.mov 1 (.s 47)) false false [47] :: cd (some 49) false (some (44, false)) (.ld false 1 (.s 48)) false false [48] :: cd (some 50) false (some (44, false)) (.mv (.s 1)) false false [1] :: cd (some 51) false (some (44, false)) (.mv (.s 5)) false false [5] :: cd (some 52) false (some (44, false)) (.ixp 27 (.s 50) (.s 51)) false false [50, 51] :: cd (some 53) false (some (44, false)) (.mov 1 (.s 52)) false false [52] :: cd (some 54) false (some (44, false)) (.ld false 1 (.s 53)) false false [53] :: cd (some 55) true (some (44, false)) (.bin .neq .any (.s 49) (.s 54)) false false [49, 54] :: cd (some 56) true none (.pick (.s 44) (.c (kb true)) (.s 55)) false false [44, 55] :: cd (some 57) true none (.mv (.s 56)) false false [56] :: cd (some 58) false (some (57, false)) (.mv (.s 0)) false false [0] :: cd (some 59) false (some (57, false)) (.mv (.s 5)) false false [5] :: cd (some 60) false (some (57, false)) (.ixp 27 (.s 58) (.s 59)) false false [58, 59] :: cd (some 61) false (some (57, false)) (.mov 2 (.s 60)) false false [60] :: cd (some 62) false (some (57, false)) (.ld false 1 (.s 61)) false false [61] :: cd (some 63) false (some (57, false)) (.mv (.s 1)) false false [1] :: cd (some 64) false (some (57, false)) (.mv (.s 5)) false false [5] :: cd (some 65) false (some (57, false)) (.ixp 27 (.s 63) (.s 64)) false false [63, 64] :: cd (some 66) false (some (57, false)) (.mov 2 (.s 65)) false false [65] :: cd (some 67) false (some (57, false)) (.ld false 1 (.s 66)) false false [66] :: cd (some 68) true (some (57, false)) (.bin .neq .any (.s 62) (.s 67)) false false [62, 67] :: cd (some 69) true none (.pick (.s 57) (.c (kb true)) (.s 68)) false false [57, 68] :: cd (some 70) true none (.mv (.s 69)) false false [69] :: cd (some 71) false (some (70, false)) (.mv (.s 0)) false false [0] :: cd (some 72) false (some (70, false)) (.mv (.s 5)) false false [5] :: cd (some 73) false (some (70, false)) (.ixp 27 (.s 71) (.s 72)) false false [71, 72] :: cd (some 74) false (some (70, false)) (.mov 3 (.s 73)) false false [73] :: cd (some 75) false (some (70, false)) (.ld true 3 (.s 74)) false false [74] :: cd (some 76) false (some (70, false)) (.mv (.s 1)) false false [1] :: cd (some 77) false (some (70, false)) (.mv (.s 5)) false false [5] :: cd (some 78) false (some (70, false)) (.ixp 27 (.s 76) (.s 77)) false false [76, 77] :: cd (some 79) false (some (70, false)) (.mov 3 (.s 78)) false false [78] :: cd (some 80) false (some (70, false)) (.ld true 3 (.s 79)) false false [79] :: cd (some 81) true (some (70, false)) (.bin .neq (.flat [0, 0, 0]) (.s 75) (.s 80)) false false [75, 80] :: cd (some 82) true none (.pick (.s 70) (.c (kb true)) (.s 81)) false false [70, 81] :: cd (some 83) true none (.mv (.s 82)) false false [82] :: cd (some 84) false (some (83, false)) (.mv (.s 0)) false false [0] :: cd (some 85) false (some (83, false)) (.mv (.s 5)) false false [5] :: cd (some 86) false (some (83, false)) (.ixp 27 (.s 84) (.s 85)) false false [84, 85] :: cd (some 87) false (some (83, false)) (.mov 6 (.s 86)) false false [86] :: cd (some 88) false (some (83, false)) (.ld true 2 (.s 87)) false false [87] :: cd (some 89) false (some (83, false)) (.mv (.s 1)) false false [1] :: cd (some 90) false (some (83, false)) (.mv (.s 5)) false false [5] :: cd (some 91) false (some (83, false)) (.ixp 27 (.s 89) (.s 90)) false false [89, 90] :: cd (some 92) false (some (83, false)) (.mov 6 (.s 91)) false false [91] :: cd (some 93) false (some (83, false)) (.ld true 2 (.s 92)) false false [92] :: cd (some 94) true (some (83, false)) (.bin .neq (.flat [0, 0]) (.s 88) (.s 93)) false false [88, 93] :: cd (some 95) true none (.pick (.s 83) (.c (kb true)) (.s 94)) false false [83, 94] :: cd (some 96) true none (.mv (.s 95)) false false [95] :: cd (some 97) false (some (96, false)) (.mv (.s 0)) false false [0] :: cd (some 98) false (some (96, false)) (.mv (.s 5)) false false [5] :: cd (some 99) false (some (96, false)) (.ixp 27 (.s 97) (.s 98)) false false [97, 98] :: cd (some 100) false (some (96, false)) (.mov 23 (.s 99)) false false [99] :: cd (some 101) false (some (96, false)) (.mov 0 (.s 100)) false false [100] :: cd (some 102) false (some (96, false)) (.mov 1 (.s 101)) false false [101] :: cd (some 103) false (some (96, false)) (.ld false 3 (.s 102)) false false [102] :: cd (some 104) false (some (96, false)) (.len 1 (.s 103)) false false [103] :: cd (some 105) false (some (96, false)) (.mv (.s 1)) false false [1] :: cd (some 106) false (some (96, false)) (.mv (.s 5)) false false [5] :: cd (some 107) false (some (96, false)) (.ixp 27 (.s 105) (.s 106)) false false [105, 106] :: cd (some 108) false (some (96, false)) (.mov 23 (.s 107)) false false [107] :: cd (some 109) false (some (96, false)) (.mov 0 (.s 108)) false false [108] :: cd (some 110) false (some (96, false)) (.mov 1 (.s 109)) false false [109] :: cd (some 111) false (some (96, false)) (.ld false 3 (.s 110)) false false [110] :: cd (some 112) false (some (96, false)) (.len 1 (.s 111)) false false [111] :: cd (some 113) true (some (96, false)) (.bin .neq .any (.s 104) (.s 112)) false false [104, 112] :: cd (some 114) true none (.pick (.s 96) (.c (kb true)) (.s 113)) false false [96, 113] :: cd (some 115) true none (.mv (.s 114)) false false [114] :: cd (some 116) false (some (115, false)) (.mv (.s 0)) false false [0] :: cd (some 117) false (some (115, false)) (.mv (.s 5)) false false [5] :: cd (some 118) false (some (115, false)) (.ixp 27 (.s 116) (.s 117)) false false [116, 117] :: cd (some 119) false (some (115, false)) (.mov 23 (.s 118)) false false [118] :: cd (some 120) false (some (115, false)) (.mov 0 (.s 119)) false false [119] :: cd (some 121) false (some (115, false)) (.mov 0 (.s 120)) false false [120] :: cd (some 122) false (some (115, false)) (.ld false 1 (.s 121)) false false [121] :: cd (some 123) false (some (115, false)) (.mv (.s 1)) false false [1] :: cd (some 124) false (some (115, false)) (.mv (.s 5)) false false [5] :: cd (some 125) false (some (115, false)) (.ixp 27 (.s 123) (.s 124)) false false [123, 124] :: cd (some 126) false (some (115, false)) (.mov 23 (.s 125)) false false [125] :: cd (some 127) false (some (115, false)) (.mov 0 (.s 126)) false false [126] :: cd (some 128) false (some (115, false)) (.mov 0 (.s 127)) false false [127] :: cd (some 129) false (some (115, false)) (.ld false 1 (.s 128)) false false [128] :: cd (some 130) true (some (115, false)) (.bin .neq .any (.s 122) (.s 129)) false false [122, 129] :: cd (some 131) true none (.pick (.s 115) (.c (kb true)) (.s 130)) false false [115, 130] :: []) [0, 1, 5, 131] []) (.ite (.s 131) (.seq (R [cb 4 (.tk (.c (kb false)))] [4]) (.ret)) (.skip))))) (R [c0 16 (.mv (.s 5)), c0 17 (.bin .add .any (.s 16) (.c (ki .i64 1))), c0 5 (.tk (.s 17))] [0, 1, 5])))))) (.seq (R [cb 4 (.tk (.c (kb true)))] [4]) (.ret))))
theorem fun18 : Fun Tryz.prog cfg 18 132 cd18 [.s 4] := ⟨rfl, Tryz.f18, _, Tryz.func18, rfl, rfl, by kernel_rfl, by kernel_rfl⟩
@[go_sem] theorem ok18 : calleeOK Tryz.prog 18 = true := by kernel_rfl
@[go_sem] theorem ex18 : (cfg.ext 18).isSome = false := rfl
def cd11 : Cd := .seq (R [cb 0 (.tk (.c (kb false)))] [2]) (.seq (R [c0 6 (.bsl 1 [(.c (ki .i64 1)), (.c (ki .i64 2)), (.c (ki .i64 3))]), c0 7 (.bld [ki .i64 0, kz 1] [(1, 1, (.s 6))]), c0 8 (.call none (.c (kf 13)) [(.c (ki .i64 2)), (.s 7)]), c0 1 (.tk (.s 8))] [1, 2]) (.seq (.seq (R [c0 9 (.mv (.s 1)), cb 10 (.bin .eql .ptr (.s 9) (.c (.sc (.pointer none))))] [1, 2, 10]) (.ite (.s 10) (.seq (R [cb 0 (.tk (.c (kb false)))] [0, 2]) (.ret)) (.skip))) (.seq (R [c0 11 (.bld [ki .i64 0, ki .i64 0, ki .i64 0] [(1, 1, (.c (ki .i64 1)))]), c0 12 (.bld [ki .i64 0, ki .i64 0] [(1, 1, (.c (ki .i64 1)))]), c0 13 (.bld [ki .i64 0, ki .i64 0, ki .i64 0, ks [], ks [], ki .i64 0, ki .i64 0, ki .i64 0] [(0, 1, (.c (ki .i64 1))), (1, 1, (.c (ki .i64 1))), (2, 1, (.c (ki .i64 3))), (3, 1, (.c (ks [47, 97])))]), c0 14 (.bld [ki .i64 0, ki .i64 0, ki .i64 0, ki .i64 0, ki .i64 0, ki .i64 0, ki .i64 0, ki .i64 0, ks [], ks [], ki .i64 0, ki .i64 0, ki .i64 0, ki .i64 0, kz 3] [(5, 8, (.s 13))]), c0 15 (.bld [ki .i64 0, ki .i64 0, ki .i64 0, ki .i64 0, ki .i64 0, ki .i64 0, ki .i64 0, ki .i64 0, ki .i64 0, ki .i64 0, ki .i64 0, ki .i64 0, ki .i64 0, ki .i64 0, ki .i64 0, ki .i64 0, ks [], ks [], ki .i64 0, ki .i64 0, ki .i64 0, ki .i64 0, kz 3, ki .i64 0, kz 1, kz 3, kz 6] [(0, 1, (.c (ki .i64 0))), (1, 1, (.c (ki .i64 1))), (2, 1, (.c (ki .i64 2))), (3, 3, (.s 11)), (6, 2, (.s 12)), (8, 15, (.s 14))]), c0 2 (.new false (.c (.agg [ki .i64 0, ki .i64 0, ki .i64 0, ki .i64 0, ki .i64 0, ki .i64 0, ki .i64 0, ki .i64 0, ki .i64 0, ki .i64 0, ki .i64 0, ki .i64 0, ki .i64 0, ki .i64 0, ki .i64 0, ki .i64 0, ks [], ks [], ki .i64 0, ki .i64 0, ki .i64 0, ki .i64 0, kn 3, ki .i64 0, kn 1, kn 3, kn 6]))), cn (.st 27 (.s 2) (.s 15))] [1, 2]) (.seq (R [c0 16 (.mv (.s 1)), c0 17 (.ld true 27 (.s 2)), c0 18 (.call none (.c (kf 16)) [(.s 16), (.s 17)]), c0 3 (.tk (.s 18))] [1, 2, 3]) (.seq (R [c0 19 (.mv (.s 1)), c0 20 (.mov 3 (.s 2)), c0 21 (.ld true 3 (.s 20)), c0 22 (.bld [ki .i64 0, ki .i64 0] [(0, 1, (.c (ki .i64 1))), (1, 1, (.c (ki .i64 2)))]), c0 23 (.bld [ki .i64 0, ki .i64 0, ki .i64 0, ki .i64 0, ki .i64 0, ki .i64 0, ki .i64 0, ki .i64 0, ki .i64 0, ki .i64 0, ki .i64 0, ki .i64 0, ki .i64 0, ki .i64 0, ki .i64 0, ki .i64 0, ks [], ks [], ki .i64 0, ki .i64 0, ki .i64 0, ki .i64 0, kz 3, ki .i64 0, kz 1, kz 3, kz 6] [(0, 1, (.c (ki .i64 5))), (1, 1, (.c (ki .i64 3))), (2, 1, (.c (ki .i64 2))), (3, 3, (.s 21)), (6, 2, (.s 22))]), c0 24 (.call none (.c (kf 16)) [(.s 19), (.s 23)]), c0 4 (.tk (.s 24))] [1, 2, 3, 4]) (.seq (R [c0 25 (.mov 0 (.s 2)), cn (.st 1 (.s 25) (.c (ki .i64 2)))] [1, 2, 3, 4]) (.seq (R [c0 26 (.mv (.s 1)), c0 27 (.ld true 27 (.s 2)), c0 28 (.call none (.c (kf 16)) [(.s 26), (.s 27)]), c0 5 (.tk (.s 28))] [1, 2, 3, 4, 5]) (.seq (R (c0 29 (.mv (.s 3)) :: c0 30 (.len 1 (.s 29)) :: cb 31 (.bin .eql .any (.s 30) (.c (ki .i64 1))) :: cb 32 (.mv (.s 31)) :: cg 33 32 true (.mv (.s 3)) :: cg 34 32 true (.ixp 27 (.s 33) (.c (ki .i64 0))) :: cg 35 32 true (.mov 0 (.s 34)) :: cg 36 32 true (.ld false 1 (.s 35)) :: ch 37 32 true (.bin .eql .any (.s 36) (.c (ki .i64 1))) :: cb 38 (.pick (.s 32) (.s 37) (.c (kb false))) :: cb 39 (.mv (.s 38)) :: cg 40 39 true (.mv (.s 3)) :: cg 41 39 true (.ixp 27 (.s 40) (.c (ki .i64 0))) :: cg 42 39 true (.mov 8 (.s 41)) :: cg 43 39 true (.mov 13 (.s 42)) :: cg 44 39 true (.mov 0 (.s 43)) :: cg 45 39 true (.ld false 1 (.s 44)) :: ch 46 39 true (.bin .eql .any (.s 45) (.c (ki .i64 1))) :: cb 47 (.pick (.s 39) (.s 46) (.c (kb false))) :: cb 48 (.mv (.s 47)) :: cg 49 48 true (.mv (.s 4)) :: cg 50 48 true (.len 1 (.s 49)) :: ch 51 48 true (.bin .eql .any (.s 50) (.c (ki .i64 1))) :: cb 52 (.pick (.s 48) (.s 51) (.c (kb false))) :: cb 53 (.mv (.s 52)) :: cg 54 53 true (.mv (.s 4)) :: cg 55 53 true (.ixp 27 (.s 54) (.c (ki .i64 0))) :: cg 56 53 true (.mov 0 (.s 55)) :: cg 57 53 true (.ld false 1 (.s 56)) :: ch 58 53 true (.bin .eql .any (.s 57) (.c (ki .i64 6))) :: cb 59 (.pick (.s 53) (.s 58) (.c (kb false))) :: cb 60 (.mv (.s 59)) :: cg 61 60 true (.mv (.s 4)) :: cg 62 60 true (.ixp 27 (.s 61) (.c (ki .i64 0))) :: cg 63 60 true (.mov 8 (.s 62)) :: cg 64 60 true (.mov 0 (.s 63)) :: cg 65 60 true (.ld false 1 (.s 64)) :: ch 66 60 true (.bin .eql .any (.s 65) (.c (ki .i64 1))) :: cb 67 (.pick (.s 60) (.s 66) (.c (kb false))) :: cb 68 (.mv (.s 67)) :: cg 69 68 true (.mv (.s 5)) :: cg 70 68 true (.len 1 (.s 69)) :: ch 71 68 true (.bin .eql .any (.s 70) (.c (ki .i64 1))) :: cb 72 (.pick (.s 68) (.s 71) (.c (kb false))) :: cb 73 (.mv (.s 72)) :: cg 74 73 true (.mv (.s 5)) :: cg 75 73 true (.ixp 27 (.s 74) (.c (ki .i64 0))) :: cg 76 73 true (.mov 0 (.s 75)) :: cg 77 73 true (.ld false 1 (.s 76)) :: ch 78 73 true (.bin .eql .any (.s 77) (.c (ki .i64 7))) :: cb 79 (.pick (.s 73) (.s 78) (.c (kb false))) :: cb 80 (.mv (.s 79)) :: cg 81 80 true (.mv (.s 5)) :: cg 82 80 true (.ixp 27 (.s 81) (.c (ki .i64 0))) :: cg 83 80 true (.mov 6 (.s 82)) :: cg 84 80 true (.mov 0 (.s 83)) :: cg 85 80 true (.ld false 1 (.s 84)) :: ch 86 80 true (.bin .eql .any (.s 85) (.c (ki .i64 1))) :: cb 87 (.pick (.s 80) (.s 86) (.c (kb false))) :: cb 88 (.mv (.s 87)) :: cg 89 88 true (.mv (.s 1)) :: cg 90 88 true (.mov 3 (.s 2)) :: cg 91 88 true (.ld true 3 (.s 90)) :: cg 92 88 true (.call none (.c (kf 20)) [(.s 89), (.s 91)]) :: cg 93 88 true (.fld 1 true 2 (.s 92)) :: cg 94 88 true (.fld 0 false 1 (.s 93)) :: ch 95 88 true (.bin .eql .any (.s 94) (.c (ki .i64 1))) :: cb 96 (.pick (.s 88) (.s 95) (.c (kb false))) :: cb 97 (.mv (.s 96)) :: cg 98 97 true (.mv (.s 1)) :: cg 99 97 true (.call none (.c (kf 22)) [(.s 98)]) :: cg 100 97 true (.len 1 (.s 99)) :: ch 101 97 true (.bin .eql .any (.s 100) (.c (ki .i64 1))) :: cb 102 (.pick (.s 97) (.s 101) (.c (kb false))) :: cb 103 (.mv (.s 102)) :: cg 104 103 true (.mv (.s 1)) :: cg 105 103 true (.call none (.c (kf 23)) [(.s 104)]) :: cg 106 103 true (.len 1 (.s 105)) :: ch 107 103 true (.bin .eql .any (.s 106) (.c (ki .i64 1))) :: cb 108 (.pick (.s 103) (.s 107) (.c (kb false))) :: cb 109 (.mv (.s 108)) :: cg 110 109 true (.mv (.s 1)) :: cg 111 109 true (.ld true 27 (.s 2)) :: ch 112 109 true (.call none (.c (kf 15)) [(.s 110), (.s 111)]) :: cb 113 (.pick (.s 109) (.s 112) (.c (kb false))) :: cb 0 (.tk (.s 113)) :: []) [0, 2]) (.ret)))))))))
theorem fun11 : Fun Tryz.prog cfg 11 114 cd11 [.s 0] := ⟨rfl, Tryz.f11, _, Tryz.func11, rfl, rfl, by kernel_rfl, by kernel_rfl⟩
@[go_sem] theorem ok11 : calleeOK Tryz.prog 11 = true := by kernel_rfl
@[go_sem] theorem ex11 : (cfg.ext 11).isSome = false := rfl
variable {h : DHeap}
/-- How much there is of a snap, as the law counts it. -/
def wr (n : Int) : Int := IntKind.wrap .i64 n
def stP (n : Int) (e : PEnt) : Int := wr (wr (n + (e.path.length : Nat)) + (e.value.length : Nat))
def stT (n : Int) (s : Str) : Int := wr (n + (s.length : Nat))
def smT (l : List Str) (k : Nat) (n : Int) : Int := (l.take k).foldl stT n
def stS (n : Int) (e : PSes) : Int := smT e.names (min e.names.length 3000) (wr (wr (n + (e.value.length : Nat)) + (e.names.length : Nat)))
def smP (l : List PEnt) (k : Nat) (n : Int) : Int := (l.take k).foldl stP n
def smS (l : List PSes) (k : Nat) (n : Int) : Int := (l.take k).foldl stS n
theorem fold_succ {α : Type} (f : Int → α → Int) (l : List α) (k : Nat) (n : Int) (hk : k < l.length) : (l.take (k + 1)).foldl f n = f ((l.take k).foldl f n) l[k] := by
  rw [List.take_succ_eq_append_getElem hk, List.foldl_append]; rfl
def snapN (s : Snp) : Int := smS s.sess (min s.sess.length 3000) (smP s.paths (min s.paths.length 3000) (wr (wr ((s.con.nodes.length : Nat) + (s.paths.length : Nat)) + (s.sess.length : Nat))))
set_option maxHeartbeats 2000000 in
theorem snap_lim (s : Snp) : lim Tryz.prog cfg 58 [.agg [vi s.con.epoch, .list false 1 (vnums s.con.nodes), .list false 3 (pes s.paths), .list false 6 (pss s.sess)]] h = some (vb (decide (snapN s < 3000)), h) := by
  refine lim_funp fun58 rfl (by simp) (by simp [heapFree, heapFree.all, free_vnums, free_pes, free_pss]) rfl ?_
  delta cd58
  obtain ⟨⟨ep, nodes⟩, paths, sess⟩ := s
  dsimp only
  simp -implicitDefEqProofs -dsimp only [go_sem]
  have W0 : ∀ z : Int, IntKind.wrap .i64 z = wr z := fun _ => rfl
  generalize hn0 : wr (wr ((nodes.length : Nat) + (paths.length : Nat)) + (sess.length : Nat)) = n0
  have hn0' : IntKind.wrap .i64 (IntKind.wrap .i64 ((nodes.length : Nat) + (paths.length : Nat)) + (sess.length : Nat)) = n0 := hn0
  rw [hn0']
  have hN : snapN ⟨⟨ep, nodes⟩, paths, sess⟩ = smS sess (min sess.length 3000) (smP paths (min paths.length 3000) n0) := by rw [← hn0]; rfl
  rw [hN]
  refine wp_for (σ := Nat) (fun k => [(1, .box [vi ep, .list false 1 (vnums nodes), .list false 3 (pes paths), .list false 6 (pss sess)]), (3, vi (smP paths k n0)), (4, vi (k : Nat))]) (fun _ => []) (fun k => paths.length - k) (fun k => k ≤ paths.length ∧ k ≤ 3000) 0 ⟨Nat.zero_le _, Nat.zero_le _⟩ rfl rfl ?_
  rintro k ⟨hk, hk2⟩ N hN
  by_cases h1 : k < paths.length ∧ k < 3000
  · obtain ⟨h1, h2⟩ := h1
    have d1 : (k : Int) < (paths.length : Int) := by omega
    have d2 : (k : Int) < 3000 := by omega
    have e := fold_succ stP paths k n0 h1
    simp -implicitDefEqProofs -dsimp only [go_sem, d1, d2, h1]
    refine hN (k + 1) _ (by omega) ⟨by omega, by omega⟩ ?_
    simp -implicitDefEqProofs -dsimp only [go_sem, wrap_succ (show k < 9223372036854775807 by omega)]
    rw [show smP paths (k + 1) n0 = stP (smP paths k n0) paths[k] from e]
    rfl
  have hk3 : k = min paths.length 3000 := by omega
  generalize hn1 : smP paths (min paths.length 3000) n0 = n1
  rw [← hk3] at hn1
  have hex : ((k : Int) < (paths.length : Int)) = False ∨ (((k : Int) < (paths.length : Int)) = True ∧ ((k : Int) < 3000) = False) := by
    by_cases q : k < paths.length
    · exact .inr ⟨eq_true (by omega), eq_false (by omega)⟩
    · exact .inl (eq_false (by omega))
  clear hk hk2 h1 hN hk3 hn0 hn0'
  rcases hex with d1 | ⟨d1, d2⟩
  case' inr => simp -implicitDefEqProofs -dsimp only [go_sem, d1, d2, hn1]
  case' inl => simp -implicitDefEqProofs -dsimp only [go_sem, d1, hn1]
  all_goals
    refine wp_for (σ := Nat) (fun k => [(1, .box [vi ep, .list false 1 (vnums nodes), .list false 3 (pes paths), .list false 6 (pss sess)]), (3, vi (smS sess k n1)), (5, vi (k : Nat))]) (fun _ => []) (fun k => sess.length - k) (fun k => k ≤ sess.length ∧ k ≤ 3000) 0 ⟨Nat.zero_le _, Nat.zero_le _⟩ rfl rfl ?_
    rintro k ⟨hk, hk2⟩ N hN
    by_cases h1 : k < sess.length ∧ k < 3000
    · obtain ⟨h1, h2⟩ := h1
      have d1 : (k : Int) < (sess.length : Int) := by omega
      have d2 : (k : Int) < 3000 := by omega
      simp -implicitDefEqProofs -dsimp only [go_sem, d1, d2, h1]
      generalize hm0 : IntKind.wrap .i64 (IntKind.wrap .i64 (smS sess k n1 + (sess[k].value.length : Nat)) + (sess[k].names.length : Nat)) = m0
      refine wp_for (σ := Nat) (fun q => [(1, .box [vi ep, .list false 1 (vnums nodes), .list false 3 (pes paths), .list false 6 (pss sess)]), (3, vi (smT sess[k].names q m0)), (5, vi (k : Nat)), (6, vi (q : Nat))]) (fun _ => []) (fun q => sess[k].names.length - q) (fun q => q ≤ sess[k].names.length ∧ q ≤ 3000) 0 ⟨Nat.zero_le _, Nat.zero_le _⟩ rfl rfl ?_
      rintro q ⟨hq, hq2⟩ M hM
      by_cases g1 : q < sess[k].names.length ∧ q < 3000
      · obtain ⟨g1, g2⟩ := g1
        have f1 : (q : Int) < (sess[k].names.length : Int) := by omega
        have f2 : (q : Int) < 3000 := by omega
        have e := fold_succ stT sess[k].names q m0 g1
        simp -implicitDefEqProofs -dsimp only [go_sem, h1, f1, f2, g1]
        refine hM (q + 1) _ (by omega) ⟨by omega, by omega⟩ ?_
        simp -implicitDefEqProofs -dsimp only [go_sem, wrap_succ (show q < 9223372036854775807 by omega)]
        rw [show smT sess[k].names (q + 1) m0 = stT (smT sess[k].names q m0) sess[k].names[q] from e]
        rfl
      have hq3 : q = min sess[k].names.length 3000 := by omega
      have es : smS sess (k + 1) n1 = smT sess[k].names q m0 := by
        rw [show smS sess (k + 1) n1 = stS (smS sess k n1) sess[k] from fold_succ stS sess k n1 h1, hq3, ← hm0]
        rfl
      have hex2 : ((q : Int) < (sess[k].names.length : Int)) = False ∨ (((q : Int) < (sess[k].names.length : Int)) = True ∧ ((q : Int) < 3000) = False) := by
        by_cases z : q < sess[k].names.length
        · exact .inr ⟨eq_true (by omega), eq_false (by omega)⟩
        · exact .inl (eq_false (by omega))
      rcases hex2 with f1 | ⟨f1, f2⟩
      · simp -implicitDefEqProofs -dsimp only [go_sem, h1, f1]
        refine hN (k + 1) _ (by omega) ⟨by omega, by omega⟩ ?_
        simp -implicitDefEqProofs -dsimp only [go_sem, wrap_succ (show k < 9223372036854775807 by omega), es]
      · simp -implicitDefEqProofs -dsimp only [go_sem, h1, f1, f2]
        refine hN (k + 1) _ (by omega) ⟨by omega, by omega⟩ ?_
        simp -implicitDefEqProofs -dsimp only [go_sem, wrap_succ (show k < 9223372036854775807 by omega), es]
    have hk3 : k = min sess.length 3000 := by omega
    have hex : ((k : Int) < (sess.length : Int)) = False ∨ (((k : Int) < (sess.length : Int)) = True ∧ ((k : Int) < 3000) = False) := by
      by_cases q : k < sess.length
      · exact .inr ⟨eq_true (by omega), eq_false (by omega)⟩
      · exact .inl (eq_false (by omega))
    rcases hex with d1 | ⟨d1, d2⟩
    · simp -implicitDefEqProofs -dsimp only [go_sem, d1]
      rw [hk3]
      simp
    · simp -implicitDefEqProofs -dsimp only [go_sem, d1, d2]
      rw [hk3]
      simp
def fewB (m : Mes) : Bool := decide (wr (wr ((m.ins.cmd.path.length : Nat) + (m.ins.cmd.value.length : Nat)) + (m.ins.att.deps.length : Nat)) < 3000) && decide (snapN m.snap < 3000)
theorem few15_lim (m : Mes) : lim Tryz.prog cfg 32 [mesD m] h = some (vb (fewB m), h) := by
  refine lim_funp fun32 rfl (by simp) (by simp [heapFree, heapFree.all, free_vnums, free_pes, free_pss, free_idr]) rfl ?_
  delta cd32
  have e1 := snap_lim (h := []) m.snap
  have W0 : ∀ z : Int, IntKind.wrap .i64 z = wr z := fun _ => rfl
  unfold fewB
  cases c2 : decide (snapN m.snap < 3000) <;> rw [c2] at e1 <;> simp -implicitDefEqProofs -dsimp only [go_sem, e1, W0] <;> simp
def badM (m : Mes) : Bool := !fewB m || decide (60 < m.ins.att.deps.length) || decide (300 < m.ins.cmd.path.length) || decide (300 < m.ins.cmd.value.length)
def overM (l : List Mes) : Bool := (l.take 41).any badM || decide (40 < l.length)
theorem overM_ok {l : List Mes} (h : overM l = false) : l.length ≤ 40 ∧ ∀ m ∈ l, MesOK m := by
  simp only [overM, Bool.or_eq_false_iff, decide_eq_false_iff_not] at h
  have hl : l.length ≤ 40 := by omega
  refine ⟨hl, fun m hm => ?_⟩
  rw [List.take_of_length_le (by omega)] at h
  have := List.any_eq_false.1 h.1 m hm
  simp only [badM, Bool.or_eq_true, decide_eq_true_eq, not_or] at this
  exact ⟨by omega, by omega⟩
theorem mess_at {l : List Mes} {k : Nat} (hk : k < l.length) (N : List DV → Prop) : IdxP (mess l) (Nf (k : Int)) N = N (mesL l[k]) := by
  show IdxP (mess l) (k : Int) N = N (mesL l[k])
  rw [idxP_mess]
  simp [IdxP, hk]
set_option maxHeartbeats 2000000 in
theorem over15_lim (own : Bool) (l : List Mes) : lim Tryz.prog cfg 12 [.list own 27 (mess l)] h = some (vb (overM l), h) := by
  refine lim_funp fun12 rfl (by simp) (by simp [heapFree, heapFree.all, free_mess]) rfl ?_
  delta cd12
  simp -implicitDefEqProofs -dsimp only [go_sem]
  refine wp_for (σ := Nat) (fun k => [(0, .list false 27 (mess l)), (3, vi (k : Nat))]) (fun _ => []) (fun k => l.length - k) (fun k => k ≤ l.length ∧ k ≤ 41 ∧ (l.take k).any badM = false) 0 (by simp) rfl rfl ?_
  rintro k ⟨hk, hk2, hj⟩ N hN
  by_cases hlt : k < l.length
  · have h1 : ((k : Int) < (l.length : Int)) := by omega
    by_cases h40 : k ≤ 40
    · have h2 : ((k : Int) ≤ 40) := by omega
      have hs := List.take_succ_eq_append_getElem hlt
      have o1 := few15_lim (h := []) l[k]
      have q := fun N => mess_at hlt N
      cases hb : badM l[k] with
      | true =>
        have ho : overM l = true := by
          have : (l.take 41).any badM = true := by
            rw [List.any_eq_true]
            exact ⟨l[k], List.mem_take_iff_getElem.2 ⟨k, by omega, rfl⟩, hb⟩
          simp [overM, this]
        rw [ho]
        cases b0 : fewB l[k] with
        | false =>
          rw [b0] at o1
          simp -implicitDefEqProofs -dsimp (maxSteps := 1000000) only [go_sem, ↓q, h1, h2, o1]
        | true =>
        rw [b0] at o1
        by_cases b1 : 60 < l[k].ins.att.deps.length
        · have b1' : (60 : Int) < (l[k].ins.att.deps.length : Int) := by omega
          simp -implicitDefEqProofs -dsimp (maxSteps := 1000000) only [go_sem, ↓q, h1, h2, o1, b1']
        have b1' : ¬ (60 : Int) < (l[k].ins.att.deps.length : Int) := by omega
        by_cases b2 : 300 < l[k].ins.cmd.path.length
        · have b2' : (300 : Int) < (l[k].ins.cmd.path.length : Int) := by omega
          simp -implicitDefEqProofs -dsimp (maxSteps := 1000000) only [go_sem, ↓q, h1, h2, o1, b1', b2']
        have b2' : ¬ (300 : Int) < (l[k].ins.cmd.path.length : Int) := by omega
        have b3' : (300 : Int) < (l[k].ins.cmd.value.length : Int) := by
          simp only [badM, b0, b1, b2, decide_false, Bool.not_true, Bool.false_or, Bool.or_false, decide_eq_true_eq] at hb
          omega
        simp -implicitDefEqProofs -dsimp (maxSteps := 1000000) only [go_sem, ↓q, h1, h2, o1, b1', b2', b3']
      | false =>
        have hb' := hb
        simp only [badM, Bool.or_eq_false_iff, decide_eq_false_iff_not, Bool.not_eq_false'] at hb'
        obtain ⟨⟨⟨b0, b1⟩, b2⟩, b3⟩ := hb'
        have b1' : ¬ (60 : Int) < (l[k].ins.att.deps.length : Int) := by omega
        have b2' : ¬ (300 : Int) < (l[k].ins.cmd.path.length : Int) := by omega
        have b3' : ¬ (300 : Int) < (l[k].ins.cmd.value.length : Int) := by omega
        rw [b0] at o1
        simp -implicitDefEqProofs -dsimp (maxSteps := 1000000) only [go_sem, ↓q, h1, h2, b1', o1, b2', b3']
        refine hN (k + 1) _ (by omega) ⟨by omega, by omega, ?_⟩ ?_
        · rw [hs, List.any_append, hj]; simpa using hb
        · simp -implicitDefEqProofs -dsimp only [go_sem, wrap_succ (show k < 9223372036854775807 by omega)]
    · have h2 : ¬ ((k : Int) ≤ 40) := by omega
      have h3 : (40 : Int) < (l.length : Int) := by omega
      have ho : overM l = true := by
        unfold overM
        rw [decide_eq_true (by omega), Bool.or_true]
      simp -implicitDefEqProofs -dsimp only [go_sem, h1, h2, h3, ho]
  · have h1 : ¬ ((k : Int) < (l.length : Int)) := by omega
    have : k = l.length := by omega
    subst this
    rw [List.take_length] at hj
    have h3 : ¬ (40 : Int) < (l.length : Int) ∨ (40 : Int) < (l.length : Int) := by omega
    have ho : overM l = decide (40 < l.length) := by
      unfold overM
      have : (l.take 41).any badM = false := by
        rw [List.any_eq_false] at hj ⊢
        exact fun x hx => hj x (List.mem_of_mem_take hx)
      rw [this, Bool.false_or]
    rw [ho]
    rcases h3 with h3 | h3
    · rw [decide_eq_false (by omega)]
      simp -implicitDefEqProofs -dsimp only [go_sem, h1, h3]
    · rw [decide_eq_true (by omega)]
      simp -implicitDefEqProofs -dsimp only [go_sem, h1, h3]
theorem row_self (o1 o2 : Bool) (l : List Id) (hl : l.length ≤ 1099511627776) : lim Tryz.prog cfg 28 [.list o1 3 (idr l), .list o2 3 (idr l)] h = some (vb true, h) := by
  refine lim_funp fun28 rfl (by simp) (by simp [heapFree, heapFree.all, free_idr]) rfl ?_
  delta cd28
  simp -implicitDefEqProofs -dsimp only [go_sem]
  refine wp_for (σ := Nat) (fun k => [(0, .list false 3 (idr l)), (1, .list false 3 (idr l)), (5, vi (k : Nat))]) (fun _ => []) (fun k => l.length - k) (fun k => k ≤ l.length) 0 (by simp) rfl rfl ?_
  rintro k hk N hN
  by_cases hlt : k < l.length
  · have h1 : ((k : Int) < (l.length : Int)) := by omega
    simp -implicitDefEqProofs -dsimp only [go_sem, h1, hlt, nat_nn9]
    refine hN (k + 1) _ (by omega) (by omega) ?_
    simp -implicitDefEqProofs -dsimp only [go_sem, wrap_succ (show k < 9223372036854775807 by omega)]
  · have h1 : ¬ ((k : Int) < (l.length : Int)) := by omega
    simp -implicitDefEqProofs -dsimp only [go_sem, h1]
theorem same_self (x : Ins) (hl : x.att.deps.length ≤ 1099511627776) : lim Tryz.prog cfg 19 [insD x, insD x] h = some (vb true, h) := by
  refine lim_funp fun19 rfl (by simp) (by simp [heapFree, heapFree.all, free_idr]) rfl ?_
  delta cd19
  have e1 := row_self (h := []) false false x.att.deps hl
  simp -implicitDefEqProofs -dsimp only [go_sem, e1]
end Go.DS

/-
  Walks: messages that are the same. (Does not build yet: the simp of the round is too long.)
-/
namespace Go.DS
open Go Go.Proofs
set_option maxRecDepth 100000
set_option linter.unusedVariables false
set_option linter.unusedSimpArgs false
variable {h : DHeap}
set_option maxHeartbeats 2000000 in
theorem msgs_self (o1 o2 : Bool) (l : List Mes) (hl : l.length ≤ 1099511627776) (hd : ∀ m ∈ l, m.ins.att.deps.length ≤ 1099511627776) : lim Tryz.prog cfg 18 [.list o1 27 (mess l), .list o2 27 (mess l)] h = some (vb true, h) := by
  refine lim_funp fun18 rfl (by simp) (by simp [heapFree, heapFree.all, free_mess]) rfl ?_
  delta cd18
  simp -implicitDefEqProofs -dsimp only [go_sem]
  refine wp_for (σ := Nat) (fun k => [(0, .list false 27 (mess l)), (1, .list false 27 (mess l)), (5, vi (k : Nat))]) (fun _ => []) (fun k => l.length - k) (fun k => k ≤ l.length) 0 (by simp) rfl rfl ?_
  rintro k hk N hN
  by_cases hlt : k < l.length
  · have h1 : ((k : Int) < (l.length : Int)) := by omega
    have q := fun N => mess_at hlt N
    have e1 := same_self (h := []) l[k].ins (hd _ (List.getElem_mem hlt))
    simp -implicitDefEqProofs -dsimp (maxSteps := 1000000) only [go_sem, ↓q, h1, e1, Bool.not_false]
    refine hN (k + 1) _ (by omega) (by omega) ?_
    simp -implicitDefEqProofs -dsimp only [go_sem, wrap_succ (show k < 9223372036854775807 by omega)]
  · have h1 : ¬ ((k : Int) < (l.length : Int)) := by omega
    simp -implicitDefEqProofs -dsimp only [go_sem, h1]
end Go.DS

/-
  Walks: the example of accept.
-/
namespace Go.DS
open Go Go.Proofs
set_option maxRecDepth 100000
set_option linter.unusedVariables false
set_option linter.unusedSimpArgs false
variable {h : DHeap}
abbrev con15 : Con := ⟨0, [1, 2, 3]⟩
abbrev id15 : Id := ⟨0, 1, 0⟩
abbrev cmd15 : Cmd := ⟨1, 1, 3, [47, 97], [], 0, 0, 0⟩
abbrev m15 : Mes := ⟨0, 1, 2, id15, ⟨0, 1⟩, ⟨0, ⟨0, 0⟩, ⟨0, 0⟩, cmd15, ⟨0, []⟩⟩, ⟨⟨0, []⟩, [], []⟩⟩
abbrev p15 : Mes := ⟨5, 3, 2, id15, ⟨1, 2⟩, ⟨0, ⟨0, 0⟩, ⟨0, 0⟩, ⟨0, 0, 0, [], [], 0, 0, 0⟩, ⟨0, []⟩⟩, ⟨⟨0, []⟩, [], []⟩⟩
abbrev b15 : Bk := ⟨2, con15, []⟩
theorem known0 : knownB b15 = [] := by simp [knownB, idsB, keys, sortD]
theorem local0 : localP [] id15 cmd15 = ⟨1, []⟩ := by
  have e : cleanP ([] : List Id) = [] := by simp [cleanP, setOf, sortD]
  simp [localP, e]
theorem merge0 : mergeP ⟨0, []⟩ ⟨1, []⟩ = ⟨1, []⟩ := by
  have e : cleanP ([] : List Id) = [] := by simp [cleanP, setOf, sortD]
  show (⟨max 0 1, cleanP []⟩ : Att) = _
  rw [e]; rfl
abbrev i15 : Ins := ⟨1, ⟨0, 1⟩, ⟨0, 1⟩, cmd15, ⟨1, []⟩⟩
abbrev b15a : Bk := ⟨2, con15, [(id15, i15)]⟩
abbrev b15b : Bk := ⟨2, con15, [(id15, { i15 with pro := ⟨1, 2⟩ })]⟩
theorem hear15a : hearB b15 m15 = ([ansB b15 m15 1 i15], b15a) := by
  unfold hearB
  rw [if_neg (by decide), if_neg (by decide), if_neg (by decide), if_neg (by decide), if_neg (by decide), if_pos rfl]
  unfold preB
  rw [if_neg (by decide), known0, local0, merge0]
  rfl
theorem hear15b : hearB b15a p15 = ([ansB b15a p15 6 { i15 with pro := ⟨1, 2⟩ }], b15b) := by
  unfold hearB
  rw [if_neg (by decide), if_neg (by decide), if_neg (by decide), if_neg (by decide), if_neg (by decide), if_neg (by decide), if_neg (by decide)]
  rfl
theorem hear15c : hearB b15b { m15 with kind := 2 } = ([ansB b15b { m15 with kind := 2, bal := ⟨1, 2⟩ } 7 ins0], b15b) := by
  unfold hearB
  rw [if_neg (by decide), if_neg (by decide), if_neg (by decide), if_neg (by decide), if_pos (by decide)]
  rfl
theorem ids15 : idsB b15b = [id15] := by simp [idsB, keys, sortD]
theorem known15 : (knownB b15b).length = 1 := by simp [knownB, idsB, keys, sortD, getB, aget]
theorem right15 : rightB b15b { m15 with kind := 2 } = true := by decide
theorem okB15 : BkOK 2 b15b := ⟨by simp [keys], by simp, by
  intro e he
  simp only [List.mem_singleton] at he
  subst he
  exact ⟨by simp, by simp, by simp, by simp, rfl, by simp, by simp, fun _ => rfl⟩⟩
theorem at0 {α : Type} {x : α} {l : List α} {N : α → Prop} : IdxP (x :: l) (Nf (0 : Int)) N = N x := by
  show IdxP (x :: l) 0 N = N x
  exact idxP_cons0
abbrev H15 (b : Bk) : DHeap := [bookM b, .cells [vi 2, vi 0, .list false 1 [[vi 1], [vi 2], [vi 3]], .mp 0]]
theorem atH15 (m : List (Id × Ins)) : AtB (H15 ⟨2, con15, m⟩) 1 0 ⟨2, con15, m⟩ := ⟨rfl, rfl⟩
theorem hbH15 (b : Bk) : HBb (H15 b) := by
  unfold HBb
  simp only [H15, List.all_cons, below_book, List.all_nil, Bool.and_true, Bool.true_and]
  rfl
abbrev i15b : Ins := ⟨1, ⟨1, 2⟩, ⟨0, 1⟩, cmd15, ⟨1, []⟩⟩
theorem O15a : BkOK 1 b15a := ⟨by simp [keys], by simp, by
  intro e he
  simp only [List.mem_singleton] at he
  subst he
  exact ⟨by simp, by simp, by simp, by simp, rfl, by simp, by simp, fun _ => rfl⟩⟩
theorem E15a : lim Tryz.prog cfg 16 [.ptr 1 0, .agg [vi 0, vi 1, vi 2, vi 0, vi 1, vi 0, vi 0, vi 1, vi 0, vi 0, vi 0, vi 0, vi 0, vi 1, vi 1, vi 3, vs [47, 97], vs [], vi 0, vi 0, vi 0, vi 0, .list false 3 [], vi 0, .list false 1 [], .list false 3 [], .list false 6 []]] (H15 b15) = some (.list false 27 [[vi 1, vi 2, vi 1, vi 0, vi 1, vi 0, vi 0, vi 1, vi 1, vi 0, vi 1, vi 0, vi 1, vi 1, vi 1, vi 3, vs [47, 97], vs [], vi 0, vi 0, vi 0, vi 1, .list false 3 [], vi 0, .list false 1 [], .list false 3 [], .list false 6 []]], H15 b15a) := by
  obtain ⟨o1, e1, q1⟩ := hear_lim (atH15 []) (bkOK_new 2 con15 0) (hbH15 _) (by omega) (by simp) m15 ⟨by simp, by simp⟩
  rw [hear15a] at e1 q1
  obtain rfl := q1 (by simp)
  exact e1
theorem E15b : lim Tryz.prog cfg 16 [.ptr 1 0, .agg [vi 5, vi 3, vi 2, vi 0, vi 1, vi 0, vi 1, vi 2, vi 0, vi 0, vi 0, vi 0, vi 0, vi 0, vi 0, vi 0, vs [], vs [], vi 0, vi 0, vi 0, vi 0, .list false 3 [], vi 0, .list false 1 [], .list false 3 [], .list false 6 []]] (H15 b15a) = some (.list false 27 [[vi 6, vi 2, vi 3, vi 0, vi 1, vi 0, vi 1, vi 2, vi 1, vi 1, vi 2, vi 0, vi 1, vi 1, vi 1, vi 3, vs [47, 97], vs [], vi 0, vi 0, vi 0, vi 1, .list false 3 [], vi 0, .list false 1 [], .list false 3 [], .list false 6 []]], H15 b15b) := by
  obtain ⟨o2, e2, q2⟩ := hear_lim (atH15 [(id15, i15)]) O15a (hbH15 _) (by omega) (by simp) p15 ⟨by simp, by simp⟩
  rw [hear15b] at e2 q2
  obtain rfl := q2 (by simp)
  exact e2
theorem E15c : lim Tryz.prog cfg 16 [.ptr 1 0, .agg [vi 2, vi 1, vi 2, vi 0, vi 1, vi 0, vi 0, vi 1, vi 0, vi 0, vi 0, vi 0, vi 0, vi 1, vi 1, vi 3, vs [47, 97], vs [], vi 0, vi 0, vi 0, vi 0, .list false 3 [], vi 0, .list false 1 [], .list false 3 [], .list false 6 []]] (H15 b15b) = some (.list false 27 [[vi 7, vi 2, vi 1, vi 0, vi 1, vi 0, vi 1, vi 2, vi 0, vi 0, vi 0, vi 0, vi 0, vi 0, vi 0, vi 0, vs [], vs [], vi 0, vi 0, vi 0, vi 0, .list false 3 [], vi 0, .list false 1 [], .list false 3 [], .list false 6 []]], H15 b15b) := by
  obtain ⟨o3, e3, q3⟩ := hear_lim (atH15 [(id15, i15b)]) okB15 (hbH15 _) (by omega) (by simp) { m15 with kind := 2 } ⟨by simp, by simp⟩
  have e : hearB ⟨2, con15, [(id15, i15b)]⟩ { m15 with kind := 2 } = _ := hear15c
  rw [e] at e3 q3
  obtain rfl := q3 (by simp)
  exact e3
theorem E15d : lim Tryz.prog cfg 20 [.ptr 1 0, .agg [vi 0, vi 1, vi 0]] (H15 b15b) = some (.agg [vi 1, vi 1, vi 2, vi 0, vi 1, vi 1, vi 1, vi 3, vs [47, 97], vs [], vi 0, vi 0, vi 0, vi 1, .list false 3 []], H15 b15b) :=
  get_lim (atH15 [(id15, i15b)]) id15 (by simp [getB, aget])
theorem E15e : lim Tryz.prog cfg 22 [.ptr 1 0] (H15 b15b) = some (.list true 3 [[vi 0, vi 1, vi 0]], H15 b15b) := by
  have e5 := ids_lim (atH15 [(id15, i15b)]) okB15 (by omega)
  have e : idsB ⟨2, con15, [(id15, i15b)]⟩ = _ := ids15
  rw [e] at e5
  exact e5
theorem E15f : ∃ k : List Kno, k.length = 1 ∧ lim Tryz.prog cfg 23 [.ptr 1 0] (H15 b15b) = some (.list true 13 (kns k), H15 b15b) :=
  ⟨_, known15, known_lim (atH15 [(id15, i15b)]) okB15 (by omega)⟩
theorem E15g : lim Tryz.prog cfg 15 [.ptr 1 0, .agg [vi 2, vi 1, vi 2, vi 0, vi 1, vi 0, vi 0, vi 1, vi 0, vi 0, vi 0, vi 0, vi 0, vi 1, vi 1, vi 3, vs [47, 97], vs [], vi 0, vi 0, vi 0, vi 0, .list false 3 [], vi 0, .list false 1 [], .list false 3 [], .list false 6 []]] (H15 b15b) = some (vb true, H15 b15b) := by
  have e7 := right_lim (atH15 [(id15, i15b)]) (by simp) { m15 with kind := 2 } (by simp)
  have e : rightB ⟨2, con15, [(id15, i15b)]⟩ { m15 with kind := 2 } = _ := right15
  rw [e] at e7
  exact e7
set_option maxHeartbeats 4000000 in
theorem works15_lim : lim Tryz.prog cfg 11 [] h = some (vb true, h) := by
  refine lim_funp fun11 rfl (by simp) rfl rfl ?_
  delta cd11
  have n1 : lim Tryz.prog cfg 13 [vi 2, .agg [vi 0, .list false 1 [[vi 1], [vi 2], [vi 3]]]] [] = some (.ptr 1 0, H15 b15) := new_lim (h := []) 2 con15 (by simp)
  have E1 := E15a
  have E2 := E15b
  have E3 := E15c
  have E4 := E15d
  have E5 := E15e
  obtain ⟨k, k1, E6⟩ := E15f
  have E7 := E15g
  generalize H15 b15 = h0 at *
  generalize H15 b15a = h1 at *
  generalize H15 b15b = h2 at *
  simp -implicitDefEqProofs -dsimp (maxSteps := 300000) only [go_sem, ↓at0, n1, E1, E2, E3, E4, E5, E6, E7, k1]
end Go.DS

/-
  Walks: books alone in the heap.
-/
namespace Go.DS
open Go Go.Proofs
set_option maxRecDepth 100000
set_option linter.unusedVariables false
set_option linter.unusedSimpArgs false
@[go_sem] theorem eqs_cmd (x y : Cmd) : eqs [0, 0, 0, 2, 2, 0, 0, 0] [vi x.client, vi x.seq, vi x.op, vs x.path, vs x.value, vi x.version, vi x.a, vi x.b] [vi y.client, vi y.seq, vi y.op, vs y.path, vs y.value, vi y.version, vi y.a, vi y.b] = some (decide (x = y)) := by
  rw [eqs_int, eqs_int, eqs_int, eqs_str, eqs_str, eqs_int, eqs_int, eqs_int, eqs_nil]
  simp only [Option.map_some, Bool.and_true]
  congr 1
  rw [Bool.eq_iff_iff]
  obtain ⟨a, b, c, d, e, f, g, h⟩ := x
  obtain ⟨a', b', c', d', e', f', g', h'⟩ := y
  simp
abbrev HN (b : Bk) : DHeap := [bookM b, .cells [vi b.node, vi b.con.epoch, .list false 1 (vnums b.con.nodes), .mp 0]]
theorem atN (b : Bk) : AtB (HN b) 1 0 b := ⟨rfl, rfl⟩
theorem hbN (b : Bk) : HBb (HN b) := by
  have h1 := below_book (HN b).length b
  have h2 : belowO (HN b).length (.cells [vi b.node, vi b.con.epoch, .list false 1 (vnums b.con.nodes), .mp 0]) = true := by
    simp only [belowO, below, below.all, below_vnums, List.all_cons, List.all_nil, Bool.and_true, Bool.true_and]
    rfl
  unfold HBb
  rw [List.all_cons, h1, List.all_cons, h2]
  rfl
theorem newN_lim (node : Int) (c : Con) (hl : c.nodes.length ≤ 1048576) : lim Tryz.prog cfg 13 [vi node, .agg [vi c.epoch, .list false 1 (vnums c.nodes)]] [] = some (.ptr 1 0, HN ⟨node, c, []⟩) := new_lim (h := []) node c hl
theorem setN {b b' : Bk} (h1 : b'.con = b.con) (h2 : b'.node = b.node) : (HN b).set 0 (bookM b') = HN b' := by
  show [bookM b', _] = [bookM b', _]
  rw [h1, h2]
theorem hearN_lim {n : Nat} {b : Bk} (O : BkOK n b) (hn : n ≤ 99999) (hc : b.con.nodes.length ≤ 1048576) (m : Mes) (hm : MesOK m) :
    ∃ o, lim Tryz.prog cfg 16 [.ptr 1 0, mesD m] (HN b) = some (.list o 27 (mess (hearB b m).1), HN (hearB b m).2) := by
  obtain ⟨o, e, _⟩ := hear_lim (atN b) O (hbN b) hn hc m hm
  rw [setN (hear_con b m).1 (hear_con b m).2] at e
  exact ⟨o, e⟩
theorem getN_lim {n : Nat} {b : Bk} (O : BkOK n b) (hn : n ≤ 99999) (id : Id) : lim Tryz.prog cfg 20 [.ptr 1 0, .agg [vi id.e, vi id.n, vi id.k]] (HN b) = some (insD (getB b id), HN b) :=
  get_lim (atN b) id (by have := get_small O id; omega)
theorem rightN_lim {b : Bk} (hc : b.con.nodes.length ≤ 1048576) (m : Mes) (hm : MesOK m) : lim Tryz.prog cfg 15 [.ptr 1 0, mesD m] (HN b) = some (vb (rightB b m), HN b) :=
  right_lim (atN b) hc m (by have := hm.deps; omega)
theorem overM_one {m : Mes} (h : overM [m] = false) : MesOK m := (overM_ok h).2 m List.mem_cons_self
theorem mess_one (m : Mes) : mess [m] = [mesL m] := rfl
theorem hear_ins (b : Bk) (m : Mes) : ∀ o ∈ (hearB b m).1, o.ins = ins0 ∨ o.ins = getB (hearB b m).2 m.id := by
  rcases hear_cases b m with e | ⟨_, ⟨k1, k2, e⟩ | ⟨_, ⟨k1, e⟩ | ⟨k1, ⟨k2, e⟩ | ⟨k2, ⟨k3, k4, k5, e⟩ | ⟨k3, k4, e⟩ | ⟨k3, e⟩ | ⟨k3, e⟩⟩⟩⟩⟩ <;> rw [e]
  · simp
  · simp
  · intro o ho; rw [List.mem_singleton.1 ho]; exact .inr rfl
  · intro o ho; rw [List.mem_singleton.1 ho]; exact .inl rfl
  · intro o ho; rw [List.mem_singleton.1 ho]; exact .inr rfl
  · intro o ho; rw [List.mem_singleton.1 ho, get_keep]; exact .inr rfl
  · intro o ho; rw [List.mem_singleton.1 ho, get_keep]; exact .inr rfl
  · intro o ho; rw [List.mem_singleton.1 ho, get_keep]; exact .inr rfl
theorem hear_small {n : Nat} {b : Bk} (O : BkOK n b) {m : Mes} (hm : MesOK m) : ∀ o ∈ (hearB b m).1, o.ins.att.deps.length ≤ 61 + n := by
  intro o ho
  rcases hear_ins b m o ho with e | e <;> rw [e]
  · simp [ins0]
  · have := (get_small (hear_ok O hm) m.id).1; omega
end Go.DS

/-
  Arguments, opened: lists of texts.
-/
namespace Go.DS
open Go Go.Proofs Go.ChangeShapes Go.WideShapes Go.RowKit Go.Proofs.YtfmhhincdemhdaaGreat Go.Deep
set_option linter.unusedVariables false
set_option linter.unusedSimpArgs false

theorem own' : ownKnob Tryz.prog.godebug = none := by kernel_rfl
theorem laidOut' : laidOutB Tryz.prog = true := by kernel_rfl
theorem bulk_get {H : Type} : ∀ {l : List (DataW H)} {d : DataW H}, d ∈ l → Rows.uptoBulk d ≤ Rows.uptoBulkAll l
  | x :: l, d, h => by
    simp only [Rows.uptoBulkAll]
    rcases List.mem_cons.1 h with rfl | h
    · omega
    · have := bulk_get h; omega
theorem bulk_pos {H : Type} (d : DataW H) : 1 ≤ Rows.uptoBulk d := by
  cases d <;> try (simp [Rows.uptoBulk]; done)
  rename_i l; cases l <;> simp [Rows.uptoBulk]
theorem bulk_len {H : Type} : ∀ (l : List (DataW H)), l.length ≤ Rows.uptoBulkAll l
  | [] => Nat.le_refl _
  | d :: l => by
    have := bulk_len l
    have := bulk_pos d
    simp only [Rows.uptoBulkAll, List.length_cons]; omega

theorem strs_rel {H : Type} {enc : TypeId × Value → H} {P : Program} {W : World} {held : Bool} {t e : TypeId} {a : Option Addr} {len cap : Nat} {d : DataW H} {ps : List MemPlace} (ht : P.underlying t = some (.slice e)) (he : P.underlying e = some .string) (hc : P.cellsOf e = 1)
    (h : DataW.Trod enc P W 0 (fun _ => true) held t (.slice a len cap) d ps) :
    ∃ l : List Str, RelV (gh0 W) (.list false 1 (ts l)) (.slice a len cap) ∧ l.length < Rows.uptoBulk d ∧ ∀ s ∈ l, s.length < Rows.uptoBulk d := by
  obtain ⟨fuel, hf⟩ := h
  rcases open_strs ht he hc hf with ⟨hcs, hx⟩ | ⟨ad, len', cap', m, Sx, hcs, _, hl, hm, hmm, hx, hcell⟩
  · simp [Value.cells] at hcs
    obtain ⟨rfl, rfl, rfl⟩ := hcs
    refine ⟨[], .empty, ?_, by simp⟩
    exact bulk_pos d
  · simp [Value.cells] at hcs
    obtain ⟨rfl, rfl, rfl⟩ := hcs
    have hlm : len ≤ m := by rw [hmm]; simp; exact hl
    have hd : d = .slice ((List.range len).map fun i => .lit (.string (Sx i).data.toList)) ((List.range (m - len)).map fun j => .lit (.string (Sx (len + j)).data.toList)) := by
      simpa using congrArg Prod.fst hx
    refine ⟨(List.range len).map fun i => bs (Sx i), ?_, ?_, ?_⟩
    · have hts : ts ((List.range len).map fun i => bs (Sx i)) = (List.range len).map fun i => [DV.sc (.string (Sx i))] := by
        simp only [ts, List.map_map]; rfl
      have hfl : ((List.range len).map fun i => [DV.sc (.string (Sx i))]).flatten = (List.range len).map fun i => DV.sc (.string (Sx i)) := by
        generalize List.range len = r
        induction r with
        | nil => rfl
        | cons x r ih => simp only [List.map_cons, List.flatten_cons, ih]; rfl
      have hlen : ((List.range len).map fun i => [DV.sc (.string (Sx i))]).length = len := by simp
      obtain ⟨b, off, g⟩ := ad
      show RelV (gh0 W) (.list false 1 (ts _)) _
      rw [hts]
      by_cases hz : len = 0
      · subst hz
        exact .empty
      · have hgn : g = none := by
          have := (hcell 0 (by omega)).1
          cases g with
          | none => rfl
          | some _ =>
            simp [World.cell?, Addr.add] at this
            split at this <;> simp at this
        subst hgn
        have hg : ∀ i, i < m → W.cell? ⟨b, off + i, none⟩ = some (.string (Sx i)) := fun i hi => by
          have := (hcell i hi).1
          by_cases hi0 : i = 0
          · subst hi0; simpa [Addr.add] using this
          · simpa [Addr.add, hi0] using this
        have := RelV.list (g := gh0 W) (own := false) (es := 1) (l := (List.range len).map fun i => [DV.sc (.string (Sx i))]) (cap := cap) (b := b) (off := off) (vs := (List.range len).map fun i => Value.string (Sx i)) (by simpa using hl) (by simp)
          (by rw [hfl]; simp) (by
            rw [hfl]
            intro k x v hx hv
            rw [List.getElem?_map] at hx hv
            cases hr : (List.range len)[k]? with
            | none => rw [hr] at hx; cases hx
            | some i => rw [hr] at hx hv; cases hx; cases hv; exact .sc _) (by
            intro k v hv
            rw [List.getElem?_map] at hv
            cases hr : (List.range len)[k]? with
            | none => rw [hr] at hv; cases hv
            | some i =>
              rw [hr] at hv; cases hv
              obtain ⟨hk, rfl⟩ := List.getElem?_eq_some_iff.1 hr
              simp only [List.getElem_range]
              simp only [List.length_range] at hk
              exact gh0_pc (hg k (by omega)) rfl)
        rwa [hlen] at this
    · rw [hd]
      have := bulk_len ((List.range len).map fun i => (DataW.lit (.string (Sx i).data.toList) : DataW H))
      simp only [Rows.uptoBulk, List.length_map, List.length_range] at this ⊢
      omega
    · intro s hs
      obtain ⟨i, hi, rfl⟩ := List.mem_map.1 hs
      have := bulk_get (H := H) (List.mem_map_of_mem (f := fun i => (DataW.lit (.string (Sx i).data.toList) : DataW H)) hi)
      rw [hd]
      simp only [Rows.uptoBulk] at this ⊢
      show (Sx i).data.toList.length < _
      omega
end Go.DS

/-
  Arguments of any plain type, opened: texts, numbers, truth values, slices and structs of them.
-/
namespace Go.DS
open Go Go.Proofs Go.ChangeShapes Go.WideShapes Go.RowKit Go.Proofs.YtfmhhincdemhdaaGreat Go.Deep
set_option linter.unusedVariables false
set_option linter.unusedSimpArgs false

/-- Fields, one behind the other. -/
def tilesB (P : Program) : List Field → Nat → Nat → Bool
  | [], k, m => k == m
  | f :: fs, k, m => f.offset == k && tilesB P fs (k + P.cellsOf f.type) m
/-- Types of plain data. -/
def plainTy (P : Program) : Nat → TypeId → Bool
  | 0, _ => false
  | n + 1, t => match P.underlying t with
    | some .bool => P.cellsOf t == 1
    | some (.int _) => P.cellsOf t == 1
    | some .string => P.cellsOf t == 1
    | some (.slice e) => P.cellsOf t == 1 && decide (0 < P.cellsOf e) && plainTy P n e
    | some (.struct fs) => tilesB P fs.toList 0 (P.cellsOf t) && fs.toList.all fun f => plainTy P n f.type
    | _ => false
/-- What clean cells of plain data look like. -/
def Sh (P : Program) (B : Nat) : Nat → TypeId → List DV → Prop
  | 0, _, _ => False
  | n + 1, t, ds => match P.underlying t with
    | some .bool => ∃ b, ds = [.sc (.bool b)]
    | some (.int k) => ∃ m, ds = [.sc (.int k m)] ∧ k.min ≤ m ∧ m ≤ k.max
    | some .string => ∃ s, ds = [.sc (.string (mkB s))] ∧ s.length ≤ B
    | some (.slice e) => ∃ l, ds = [.list false (P.cellsOf e) l] ∧ l.length ≤ B ∧ ∀ r ∈ l, Sh P B n e r
    | some (.struct fs) => ds.length = P.cellsOf t ∧ ∀ (i : Nat) (f : Field), fs[i]? = some f → Sh P B n f.type ((ds.drop f.offset).take (P.cellsOf f.type))
    | _ => False
theorem sh_int {P : Program} {B n : Nat} {t : TypeId} {k : IntKind} {ds : List DV} (ht : P.underlying t = some (.int k)) (h : Sh P B (n + 1) t ds) : ∃ m, ds = [.sc (.int k m)] ∧ k.min ≤ m ∧ m ≤ k.max := by
  unfold Sh at h; rw [ht] at h; exact h
theorem sh_bool {P : Program} {B n : Nat} {t : TypeId} {ds : List DV} (ht : P.underlying t = some .bool) (h : Sh P B (n + 1) t ds) : ∃ b, ds = [.sc (.bool b)] := by
  unfold Sh at h; rw [ht] at h; exact h
theorem sh_str {P : Program} {B n : Nat} {t : TypeId} {ds : List DV} (ht : P.underlying t = some .string) (h : Sh P B (n + 1) t ds) : ∃ s, ds = [.sc (.string (mkB s))] ∧ s.length ≤ B := by
  unfold Sh at h; rw [ht] at h; exact h
theorem sh_slice {P : Program} {B n : Nat} {t e : TypeId} {ds : List DV} (ht : P.underlying t = some (.slice e)) (h : Sh P B (n + 1) t ds) : ∃ l, ds = [.list false (P.cellsOf e) l] ∧ l.length ≤ B ∧ ∀ r ∈ l, Sh P B n e r := by
  unfold Sh at h; rw [ht] at h; exact h
theorem sh_struct {P : Program} {B n : Nat} {t : TypeId} {fs : Array Field} {ds : List DV} (ht : P.underlying t = some (.struct fs)) (h : Sh P B (n + 1) t ds) :
    ds.length = P.cellsOf t ∧ ∀ (i : Nat) (f : Field), fs[i]? = some f → Sh P B n f.type ((ds.drop f.offset).take (P.cellsOf f.type)) := by
  unfold Sh at h; rw [ht] at h; exact h

theorem RelL.cells_one {g : Gh} {ds : List DV} {vs : List Value} (hr : RelL g ds vs) (hc : ds.all DV.cell = true) : ∀ u ∈ vs, u.oneCell' = true := relL_one hr hc

/-- Rows, one behind the other in memory. -/
theorem rows_list {g : Gh} {b off es : Nat} {Q : List DV → Prop} : ∀ (len : Nat), (∀ i, i < len → ∃ ds cs, RelL g ds cs ∧ ds.length = es ∧ (∀ k v, cs[k]? = some v → g.pc b (off + i * es + k) = some v) ∧ Q ds) →
    ∃ (l : List (List DV)) (vs : List Value), l.length = len ∧ (∀ r ∈ l, r.length = es ∧ Q r) ∧ RelL g l.flatten vs ∧ (∀ k v, vs[k]? = some v → g.pc b (off + k) = some v)
  | 0, _ => ⟨[], [], rfl, by simp, RelL.nil g, by simp⟩
  | len + 1, H => by
    obtain ⟨l, vs, h1, h2, h3, h4⟩ := rows_list len fun i hi => H i (by omega)
    obtain ⟨ds, cs, k1, k2, k3, k4⟩ := H len (by omega)
    have hfl : ∀ (l : List (List DV)), (∀ r ∈ l, r.length = es ∧ Q r) → l.flatten.length = l.length * es := by
      intro l
      induction l with
      | nil => intro _; simp
      | cons r l ih =>
        intro h
        rw [List.flatten_cons, List.length_append, (h r List.mem_cons_self).1, ih fun x hx => h x (List.mem_cons_of_mem _ hx), List.length_cons, Nat.add_mul]
        omega
    have hlen : vs.length = len * es := by rw [← h3.len, hfl l h2, h1]
    refine ⟨l ++ [ds], vs ++ cs, by simp [h1], ?_, ?_, ?_⟩
    · intro r hr
      rcases List.mem_append.1 hr with hr | hr
      · exact h2 r hr
      · rw [List.mem_singleton.1 hr]; exact ⟨k2, k4⟩
    · rw [List.flatten_append, List.flatten_cons, List.flatten_nil, List.append_nil]
      exact h3.append k1
    · intro k v hv
      by_cases hk : k < vs.length
      · rw [List.getElem?_append_left hk] at hv; exact h4 k v hv
      · rw [List.getElem?_append_right (by omega)] at hv
        have := k3 _ v hv
        rw [← this]
        congr 1
        omega

theorem tiles_rel {H : Type} {enc : TypeId × Value → H} {P : Program} {W : World} {held : Bool} {g : Gh} {B n m : Nat} {cs : List Value} {xs : List (DataW H × List MemPlace)}
    (ih : ∀ t cs d ps, plainTy P n t = true → DataW.trod enc P W 0 (fun _ => true) held m t cs = some (d, ps) → Rows.uptoBulk d ≤ B + 1 → ∃ ds, RelL g ds cs ∧ ds.all DV.cell = true ∧ Sh P B n t ds ∧ cs.length = P.cellsOf t)
    (hB : ∀ x ∈ xs, Rows.uptoBulk x.1 ≤ B + 1) :
    ∀ (fs : List Field) (i0 k tot : Nat), tilesB P fs k tot = true → (fs.all fun f => plainTy P n f.type) = true → cs.length = tot →
      (∀ (i : Nat) (f : Field), fs[i]? = some f → ∃ x, xs[i0 + i]? = some x ∧ DataW.trod enc P W 0 (fun _ => true) held m f.type ((cs.drop f.offset).take (P.cellsOf f.type)) = some x) →
      k ≤ tot ∧ ∃ ds, RelL g ds (cs.drop k) ∧ ds.all DV.cell = true ∧ (∀ (i : Nat) (f : Field), fs[i]? = some f → k ≤ f.offset ∧ Sh P B n f.type ((ds.drop (f.offset - k)).take (P.cellsOf f.type)))
  | [], i0, k, tot, ht, _, hl, _ => by
    simp only [tilesB, beq_iff_eq] at ht
    subst ht
    refine ⟨Nat.le_refl _, [], ?_, rfl, by simp⟩
    rw [List.drop_eq_nil_of_le (by omega)]
    exact RelL.nil g
  | f :: fs, i0, k, tot, ht, hp, hl, hx => by
    simp only [tilesB, Bool.and_eq_true, beq_iff_eq] at ht
    simp only [List.all_cons, Bool.and_eq_true] at hp
    obtain ⟨hk, ds2, r2, c2, s2⟩ := tiles_rel ih hB fs (i0 + 1) (k + P.cellsOf f.type) tot ht.2 hp.2 hl (fun i f' hf => by
      have := hx (i + 1) f' (by simpa using hf)
      rwa [show i0 + (i + 1) = i0 + 1 + i by omega] at this)
    obtain ⟨x, hx1, hx2⟩ := hx 0 f rfl
    obtain ⟨ds1, r1, c1, s1, l1⟩ := ih f.type _ x.1 x.2 hp.1 hx2 (hB x (List.mem_of_getElem? hx1))
    rw [ht.1] at r1 l1
    have hsp : cs.drop k = (cs.drop k).take (P.cellsOf f.type) ++ cs.drop (k + P.cellsOf f.type) := by
      have e := (List.take_append_drop (P.cellsOf f.type) (cs.drop k)).symm
      rw [List.drop_drop] at e
      exact e
    have hl1 : ds1.length = P.cellsOf f.type := by rw [r1.len, l1]
    refine ⟨by omega, ds1 ++ ds2, ?_, by rw [List.all_append, c1, c2]; rfl, ?_⟩
    · rw [hsp]; exact r1.append r2
    · intro i f' hf
      cases i with
      | zero =>
        cases hf
        refine ⟨by omega, ?_⟩
        rw [ht.1, Nat.sub_self, List.drop_zero, List.take_append_of_le_length (by omega), List.take_of_length_le (by omega)]
        exact s1
      | succ i =>
        obtain ⟨q1, q2⟩ := s2 i f' (by simpa using hf)
        refine ⟨by omega, ?_⟩
        rw [List.drop_append, List.drop_eq_nil_of_le (by omega), List.nil_append, hl1, show f'.offset - k - P.cellsOf f.type = f'.offset - (k + P.cellsOf f.type) by omega]
        exact q2

/-- Whatever plain data is read in memory has a clean form. -/
theorem any_rel {H : Type} {enc : TypeId × Value → H} {P : Program} {W : World} {held : Bool} {B : Nat} : ∀ (n m : Nat) (t : TypeId) (cs : List Value) (d : DataW H) (ps : List MemPlace), plainTy P n t = true →
    DataW.trod enc P W 0 (fun _ => true) held m t cs = some (d, ps) → Rows.uptoBulk d ≤ B + 1 → ∃ ds, RelL (gh0 W) ds cs ∧ ds.all DV.cell = true ∧ Sh P B n t ds ∧ cs.length = P.cellsOf t
  | 0, m, t, cs, d, ps, hp, _, _ => by simp [plainTy] at hp
  | n + 1, m, t, cs, d, ps, hp, h, hb => by
    unfold plainTy at hp
    unfold Sh
    split at hp
    · rename_i ht
      obtain ⟨b, rfl, _⟩ := DataW.trod_bool ht h
      exact ⟨_, .cons (.sc _) (.nil _), rfl, ⟨b, rfl⟩, by simpa using (beq_iff_eq.1 hp).symm⟩
    · rename_i k ht
      obtain ⟨x, rfl, _, hw⟩ := DataW.trod_int ht h
      simp only [Lit.wf, Bool.and_eq_true, decide_eq_true_eq] at hw
      exact ⟨_, .cons (.sc _) (.nil _), rfl, ⟨x, rfl, hw.1, hw.2⟩, by simpa using (beq_iff_eq.1 hp).symm⟩
    · rename_i ht
      obtain ⟨s, rfl, hx, _⟩ := DataW.trod_string ht h
      cases hx
      refine ⟨_, .cons (.sc _) (.nil _), rfl, ⟨bs s, rfl, ?_⟩, by simpa using (beq_iff_eq.1 hp).symm⟩
      simp only [Rows.uptoBulk] at hb
      show s.data.toList.length ≤ B
      omega
    · rename_i e ht
      simp only [Bool.and_eq_true, beq_iff_eq, decide_eq_true_eq] at hp
      obtain ⟨⟨hp1, hp2⟩, hp3⟩ := hp
      rcases DataW.trod_slice ht h with ⟨rfl, hx⟩ | ⟨a, len, cap, elems, rest, q, rfl, rfl, hx, _, hlc, _, hel, hat, _, _⟩
      · exact ⟨_, .cons .empty (.nil _), rfl, ⟨[], rfl, by simp, by simp⟩, by simpa using hp1.symm⟩
      · have hd : d = .slice (elems.map (·.1)) (rest.map (·.1)) := congrArg Prod.fst hx
        subst hd
        simp only [Rows.uptoBulk] at hb
        have hlB : len ≤ B := by
          have := bulk_len (elems.map (·.1))
          rw [List.length_map] at this
          omega
        by_cases hz : len = 0
        · subst hz
          exact ⟨_, .cons .empty (.nil _), rfl, ⟨[], rfl, by simp, by simp⟩, by simpa using hp1.symm⟩
        obtain ⟨b, off, sp⟩ := a
        have hcell : ∀ i, i < len → ∃ ds cs, RelL (gh0 W) ds cs ∧ ds.length = P.cellsOf e ∧ ds.all DV.cell = true ∧ Sh P B n e ds ∧ ∀ k v, cs[k]? = some v → W.cell? ((Addr.mk b off sp).add (i * P.cellsOf e) |>.add k) = some v ∧ v.oneCell' = true := by
          intro i hi
          have h1 := hat i hi
          have h2 : elems[i]? = some (elems[i]'(by omega)) := List.getElem?_eq_getElem (by omega)
          rw [h2, Option.bind_eq_some_iff] at h1
          obtain ⟨cs, c1, c2⟩ := h1
          obtain ⟨_, c3, c4⟩ := World.cells?_some c1
          have hbi : Rows.uptoBulk (elems[i]'(by omega)).1 ≤ B + 1 := by
            have := bulk_get (l := elems.map (·.1)) (d := (elems[i]'(by omega)).1) (List.mem_map_of_mem (List.getElem_mem _))
            omega
          obtain ⟨ds, r1, r2, r3, r4⟩ := any_rel n q e cs _ _ hp3 c2 hbi
          refine ⟨ds, cs, r1, by rw [r1.len, r4], r2, r3, fun k v hv => ?_⟩
          have hk : k < P.cellsOf e := by rw [← c3]; exact (List.getElem?_eq_some_iff.1 hv).1
          exact ⟨(c4 k hk).trans hv, relL_one r1 r2 v (List.mem_of_getElem? hv)⟩
        have hsp : sp = none := by
          obtain ⟨ds, cs, r1, r2, _, _, r5⟩ := hcell 0 (by omega)
          have : cs ≠ [] := fun e0 => by
            have h0 := r1.len
            rw [e0, r2, List.length_nil] at h0
            omega
          obtain ⟨v, hv⟩ : ∃ v, cs[0]? = some v := ⟨cs[0]'(List.length_pos_iff.2 this), List.getElem?_eq_getElem _⟩
          have := (r5 0 v hv).1
          cases sp with
          | none => rfl
          | some _ =>
            simp [World.cell?, Addr.add] at this
            split at this <;> simp at this
        subst hsp
        have hadd : ∀ i k : Nat, ((Addr.mk b off none).add i).add k = ⟨b, off + i + k, none⟩ := fun i k => by
          by_cases hi : i = 0 <;> by_cases hk : k = 0 <;> simp [Addr.add, hi, hk]
        obtain ⟨l, vs, l1, l2, l3, l4⟩ := rows_list (g := gh0 W) (b := b) (off := off) (es := P.cellsOf e) (Q := fun ds => ds.all DV.cell = true ∧ Sh P B n e ds) len fun i hi => by
          obtain ⟨ds, cs, r1, r2, r3, r4, r5⟩ := hcell i hi
          refine ⟨ds, cs, r1, r2, fun k v hv => ?_, r3, r4⟩
          obtain ⟨q1, q2⟩ := r5 k v hv
          rw [hadd] at q1
          exact gh0_pc q1 q2
        refine ⟨[.list false (P.cellsOf e) l], .cons ?_ (.nil _), rfl, ⟨l, rfl, by omega, fun r hr => (l2 r hr).2.2⟩, by simpa using hp1.symm⟩
        rw [← l1]
        exact .list (by omega) (fun r hr => (l2 r hr).1) l3.len l3.at_ l4
    · rename_i fs ht
      simp only [Bool.and_eq_true] at hp
      obtain ⟨xs, q, rfl, hx, hcl, hxl, hf⟩ := DataW.trod_struct ht h
      have hd : d = .agg (xs.map (·.1)) := congrArg Prod.fst hx
      subst hd
      simp only [Rows.uptoBulk] at hb
      obtain ⟨_, ds, r1, r2, r3⟩ := tiles_rel (g := gh0 W) (B := B) (n := n) (m := q) (cs := cs) (xs := xs) (fun t cs d ps => any_rel n q t cs d ps) (fun x hx => by
        have := bulk_get (l := xs.map (·.1)) (d := x.1) (List.mem_map_of_mem hx)
        omega) fs.toList 0 0 (P.cellsOf t) hp.1 hp.2 hcl (fun i f hi => by
          have hi' : fs[i]? = some f := by simpa using hi
          have := hf i f hi'
          have hlt : i < xs.length := by rw [hxl]; exact (Array.getElem?_eq_some_iff.1 hi').1
          rw [Nat.zero_add]
          exact ⟨xs[i], List.getElem?_eq_getElem hlt, this.trans (List.getElem?_eq_getElem hlt)⟩)
      rw [List.drop_zero] at r1
      refine ⟨ds, r1, r2, ⟨by rw [r1.len, hcl], fun i f hi => ?_⟩, hcl⟩
      have := (r3 i f (by simpa using hi)).2
      simpa using this
    · cases hp
end Go.DS

/-
  Arguments of this program's types, opened.
-/
namespace Go.DS
open Go Go.Proofs Go.ChangeShapes Go.WideShapes Go.RowKit Go.Proofs.YtfmhhincdemhdaaGreat Go.Deep
set_option linter.unusedVariables false
set_option maxRecDepth 100000
set_option linter.unusedSimpArgs false
theorem sh_at {P : Program} {B n : Nat} {fs : Array Field} {ds : List DV} (hf : ∀ (i : Nat) (f : Field), fs[i]? = some f → Sh P B n f.type ((ds.drop f.offset).take (P.cellsOf f.type))) (i : Nat) (f : Field) (hi : fs[i]? = some f) (hc : P.cellsOf f.type = 1) (d : DV) (hd : ds[f.offset]? = some d) : Sh P B n f.type [d] := by
  have := hf i f hi
  obtain ⟨hl, rfl⟩ := List.getElem?_eq_some_iff.1 hd
  rw [hc, List.drop_eq_getElem_cons hl] at this
  exact this
def In64 (m : Int) : Prop := -9223372036854775808 ≤ m ∧ m ≤ 9223372036854775807
theorem in64 {m : Int} (h : IntKind.min .i64 ≤ m ∧ m ≤ IntKind.max .i64) : In64 m := by
  have e1 : IntKind.min .i64 = -9223372036854775808 := by decide
  have e2 : IntKind.max .i64 = 9223372036854775807 := by decide
  rw [e1, e2] at h
  exact h
/-- An argument of a struct. -/
theorem arg_struct {H : Type} {enc : TypeId × Value → H} {P : Program} {W : World} {held : Bool} {B base n : Nat} {t : TypeId} {fs : Array Field} {v : Value} {d : DataW H} {ps : List MemPlace} (ht : P.underlying t = some (.struct fs)) (hp : plainTy P n t = true)
    (hv : Value.okWide P W .any base t v) (h : DataW.Trod enc P W 0 (fun _ => true) held t v d ps) (hb : Rows.uptoBulk d ≤ B + 1) : ∃ ds, RelV (gh0 W) (.agg ds) v ∧ Sh P B n t ds := by
  obtain ⟨cs, rfl, _⟩ := okWide_struct ht hv
  obtain ⟨m, hm⟩ := h
  obtain ⟨ds, r1, _, r3, _⟩ := any_rel n m t _ d ps hp hm hb
  refine ⟨ds, ?_, r3⟩
  have := RelV.agg r1.len r1.at_
  simpa [Value.cells] using this
/-- An argument of a slice. -/
theorem arg_slice {H : Type} {enc : TypeId × Value → H} {P : Program} {W : World} {held : Bool} {B base n : Nat} {t e : TypeId} {v : Value} {d : DataW H} {ps : List MemPlace} (ht : P.underlying t = some (.slice e)) (hp : plainTy P (n + 1) t = true)
    (hv : Value.okWide P W .any base t v) (h : DataW.Trod enc P W 0 (fun _ => true) held t v d ps) (hb : Rows.uptoBulk d ≤ B + 1) : ∃ l, RelV (gh0 W) (.list false (P.cellsOf e) l) v ∧ l.length ≤ B ∧ ∀ r ∈ l, Sh P B n e r := by
  obtain ⟨a, len, cap, rfl⟩ := okWide_slice ht hv
  obtain ⟨m, hm⟩ := h
  obtain ⟨ds, r1, _, r3, _⟩ := any_rel (n + 1) m t _ d ps hp hm hb
  obtain ⟨l, rfl, h1, h2⟩ := sh_slice ht r3
  refine ⟨l, ?_, h1, h2⟩
  have r1' : RelL (gh0 W) [.list false (P.cellsOf e) l] [.slice a len cap] := by simpa [Value.cells] using r1
  exact r1'.at_ 0 _ _ rfl rfl
theorem rows_map {α : Type} {Q : List DV → Prop} {F : α → List DV} {R : α → Prop} (h : ∀ r, Q r → ∃ x, r = F x ∧ R x) : ∀ l : List (List DV), (∀ r ∈ l, Q r) → ∃ m : List α, l = m.map F ∧ (∀ x ∈ m, R x) ∧ m.length = l.length
  | [], _ => ⟨[], rfl, by simp, rfl⟩
  | r :: l, hl => by
    obtain ⟨m, rfl, h2, h3⟩ := rows_map h l fun x hx => hl x (List.mem_cons_of_mem _ hx)
    obtain ⟨x, rfl, h4⟩ := h r (hl r List.mem_cons_self)
    exact ⟨x :: m, rfl, fun y hy => by rcases List.mem_cons.1 hy with rfl | hy; exact h4; exact h2 y hy, by simp⟩
structure CmdOK (B : Nat) (c : Cmd) : Prop where
  path : c.path.length ≤ B
  value : c.value.length ≤ B
  client : In64 c.client
  seq : In64 c.seq
  op : In64 c.op
  version : In64 c.version
  a : In64 c.a
  b : In64 c.b
theorem cmd_of {B n : Nat} {ds : List DV} (h : Sh Tryz.prog B (n + 2) 43 ds) : ∃ c : Cmd, ds = cmdL c ∧ CmdOK B c := by
  obtain ⟨hl, hf⟩ := sh_struct Tryz.underlying43 h
  have hl' : ds.length = 8 := hl.trans (by kernel_rfl)
  match ds, hl' with
  | [d0, d1, d2, d3, d4, d5, d6, d7], _ =>
    obtain ⟨x0, e0, r0⟩ := sh_int Tryz.underlying3 (sh_at hf 0 _ rfl (by kernel_rfl) d0 rfl)
    obtain ⟨x1, e1, r1⟩ := sh_int Tryz.underlying3 (sh_at hf 1 _ rfl (by kernel_rfl) d1 rfl)
    obtain ⟨x2, e2, r2⟩ := sh_int Tryz.underlying41 (sh_at hf 2 _ rfl (by kernel_rfl) d2 rfl)
    obtain ⟨x3, e3, r3⟩ := sh_str Tryz.underlying9 (sh_at hf 3 _ rfl (by kernel_rfl) d3 rfl)
    obtain ⟨x4, e4, r4⟩ := sh_str Tryz.underlying9 (sh_at hf 4 _ rfl (by kernel_rfl) d4 rfl)
    obtain ⟨x5, e5, r5⟩ := sh_int Tryz.underlying3 (sh_at hf 5 _ rfl (by kernel_rfl) d5 rfl)
    obtain ⟨x6, e6, r6⟩ := sh_int Tryz.underlying3 (sh_at hf 6 _ rfl (by kernel_rfl) d6 rfl)
    obtain ⟨x7, e7, r7⟩ := sh_int Tryz.underlying3 (sh_at hf 7 _ rfl (by kernel_rfl) d7 rfl)
    cases e0; cases e1; cases e2; cases e3; cases e4; cases e5; cases e6; cases e7
    exact ⟨⟨x0, x1, x2, x3, x4, x5, x6, x7⟩, rfl, r3, r4, in64 r0, in64 r1, in64 r2, in64 r5, in64 r6, in64 r7⟩
theorem arg_cmd {H : Type} {enc : TypeId × Value → H} {W : World} {held : Bool} {B base : Nat} {v : Value} {d : DataW H} {ps : List MemPlace} (hv : Value.okWide Tryz.prog W .any base 43 v)
    (h : DataW.Trod enc Tryz.prog W 0 (fun _ => true) held 43 v d ps) (hb : Rows.uptoBulk d ≤ B + 1) : ∃ c : Cmd, RelV (gh0 W) (cmdD c) v ∧ CmdOK B c := by
  obtain ⟨ds, r1, r2⟩ := arg_struct (n := 2) Tryz.underlying43 (by kernel_rfl) hv h hb
  obtain ⟨c, rfl, hc⟩ := cmd_of r2
  exact ⟨c, r1, hc⟩
end Go.DS

/-
  Arguments of this program's types: instances, attributes.
-/
namespace Go.DS
open Go Go.Proofs Go.ChangeShapes Go.WideShapes Go.RowKit Go.Proofs.YtfmhhincdemhdaaGreat Go.Deep
set_option linter.unusedVariables false
set_option maxRecDepth 100000
set_option linter.unusedSimpArgs false
theorem sh_sub {P : Program} {B n : Nat} {fs : Array Field} {ds : List DV} (hf : ∀ (i : Nat) (f : Field), fs[i]? = some f → Sh P B n f.type ((ds.drop f.offset).take (P.cellsOf f.type))) (i : Nat) (f : Field) (hi : fs[i]? = some f) (k : Nat) (hc : P.cellsOf f.type = k) (l : List DV) (hl : (ds.drop f.offset).take k = l) : Sh P B n f.type l := by
  rw [← hl, ← hc]; exact hf i f hi
structure IdOK (x : Id) : Prop where
  e : In64 x.e
  n : In64 x.n
  k : In64 x.k
theorem id_of {B n : Nat} {ds : List DV} (h : Sh Tryz.prog B (n + 2) 37 ds) : ∃ x : Id, ds = idL x ∧ IdOK x := by
  obtain ⟨hl, hf⟩ := sh_struct Tryz.underlying37 h
  have hl' : ds.length = 3 := hl.trans (by kernel_rfl)
  match ds, hl' with
  | [d0, d1, d2], _ =>
    obtain ⟨x0, e0, r0⟩ := sh_int Tryz.underlying3 (sh_at hf 0 _ rfl (by kernel_rfl) d0 rfl)
    obtain ⟨x1, e1, r1⟩ := sh_int Tryz.underlying3 (sh_at hf 1 _ rfl (by kernel_rfl) d1 rfl)
    obtain ⟨x2, e2, r2⟩ := sh_int Tryz.underlying3 (sh_at hf 2 _ rfl (by kernel_rfl) d2 rfl)
    cases e0; cases e1; cases e2
    exact ⟨⟨x0, x1, x2⟩, rfl, in64 r0, in64 r1, in64 r2⟩
theorem ids_of {B n : Nat} {ds : List DV} (h : Sh Tryz.prog B (n + 3) 44 ds) : ∃ l : List Id, ds = [.list false 3 (idr l)] ∧ l.length ≤ B ∧ ∀ x ∈ l, IdOK x := by
  obtain ⟨l, rfl, h1, h2⟩ := sh_slice Tryz.underlying44 h
  obtain ⟨m, rfl, h3, h4⟩ := rows_map (fun r hr => id_of hr) l h2
  have e : Tryz.prog.cellsOf 37 = 3 := by kernel_rfl
  exact ⟨m, by rw [e]; rfl, by simpa using h1, h3⟩
structure AttOK (B : Nat) (a : Att) : Prop where
  seq : In64 a.seq
  len : a.deps.length ≤ B
  deps : ∀ x ∈ a.deps, IdOK x
theorem att_of {B n : Nat} {ds : List DV} (h : Sh Tryz.prog B (n + 4) 46 ds) : ∃ a : Att, ds = attL a ∧ AttOK B a := by
  obtain ⟨hl, hf⟩ := sh_struct Tryz.underlying46 h
  have hl' : ds.length = 2 := hl.trans (by kernel_rfl)
  match ds, hl' with
  | [d0, d1], _ =>
    obtain ⟨x0, e0, r0⟩ := sh_int Tryz.underlying3 (sh_at hf 0 _ rfl (by kernel_rfl) d0 rfl)
    obtain ⟨x1, e1, r1, r1'⟩ := ids_of (n := n) (sh_at hf 1 _ rfl (by kernel_rfl) d1 rfl)
    cases e0; cases e1
    exact ⟨⟨x0, x1⟩, rfl, in64 r0, r1, r1'⟩
structure KnoOK (B : Nat) (x : Kno) : Prop where
  id : IdOK x.id
  cmd : CmdOK B x.cmd
  att : AttOK B x.att
theorem kno_of {B n : Nat} {ds : List DV} (h : Sh Tryz.prog B (n + 5) 67 ds) : ∃ x : Kno, ds = knoL x ∧ KnoOK B x := by
  obtain ⟨hl, hf⟩ := sh_struct Tryz.underlying67 h
  have hl' : ds.length = 13 := hl.trans (by kernel_rfl)
  match ds, hl' with
  | [d0, d1, d2, d3, d4, d5, d6, d7, d8, d9, d10, d11, d12], _ =>
    obtain ⟨x0, e0, r0⟩ := id_of (n := n + 2) (sh_sub hf 0 _ rfl 3 (by kernel_rfl) [d0, d1, d2] rfl)
    obtain ⟨x1, e1, r1⟩ := cmd_of (n := n + 2) (sh_sub hf 1 _ rfl 8 (by kernel_rfl) [d3, d4, d5, d6, d7, d8, d9, d10] rfl)
    obtain ⟨x2, e2, r2⟩ := att_of (n := n) (sh_sub hf 2 _ rfl 2 (by kernel_rfl) [d11, d12] rfl)
    cases e0; cases e1; cases e2
    exact ⟨⟨x0, x1, x2⟩, rfl, r0, r1, r2⟩
section
variable {H : Type} {enc : TypeId × Value → H} {W : World} {held : Bool} {B base : Nat} {v : Value} {d : DataW H} {ps : List MemPlace}
theorem arg_id (hv : Value.okWide Tryz.prog W .any base 37 v) (h : DataW.Trod enc Tryz.prog W 0 (fun _ => true) held 37 v d ps) (hb : Rows.uptoBulk d ≤ B + 1) : ∃ x : Id, RelV (gh0 W) (.agg [vi x.e, vi x.n, vi x.k]) v ∧ IdOK x := by
  obtain ⟨ds, r1, r2⟩ := arg_struct (n := 2) Tryz.underlying37 (by kernel_rfl) hv h hb
  obtain ⟨c, rfl, hc⟩ := id_of (n := 0) r2
  exact ⟨c, r1, hc⟩
theorem arg_att (hv : Value.okWide Tryz.prog W .any base 46 v) (h : DataW.Trod enc Tryz.prog W 0 (fun _ => true) held 46 v d ps) (hb : Rows.uptoBulk d ≤ B + 1) : ∃ x : Att, RelV (gh0 W) (attD x) v ∧ AttOK B x := by
  obtain ⟨ds, r1, r2⟩ := arg_struct (n := 4) Tryz.underlying46 (by kernel_rfl) hv h hb
  obtain ⟨c, rfl, hc⟩ := att_of (n := 0) r2
  exact ⟨c, r1, hc⟩
theorem arg_kno (hv : Value.okWide Tryz.prog W .any base 67 v) (h : DataW.Trod enc Tryz.prog W 0 (fun _ => true) held 67 v d ps) (hb : Rows.uptoBulk d ≤ B + 1) : ∃ x : Kno, RelV (gh0 W) (knoD x) v ∧ KnoOK B x := by
  obtain ⟨ds, r1, r2⟩ := arg_struct (n := 5) Tryz.underlying67 (by kernel_rfl) hv h hb
  obtain ⟨c, rfl, hc⟩ := kno_of (n := 0) r2
  exact ⟨c, r1, hc⟩
theorem arg_knos (hv : Value.okWide Tryz.prog W .any base 60 v) (h : DataW.Trod enc Tryz.prog W 0 (fun _ => true) held 60 v d ps) (hb : Rows.uptoBulk d ≤ B + 1) : ∃ l : List Kno, RelV (gh0 W) (.list false 13 (kns l)) v ∧ l.length ≤ B ∧ ∀ x ∈ l, KnoOK B x := by
  obtain ⟨l, r1, r2, r3⟩ := arg_slice (n := 5) Tryz.underlying60 (by kernel_rfl) hv h hb
  obtain ⟨m, rfl, h1, h2⟩ := rows_map (fun r hr => kno_of (n := 0) hr) l r3
  refine ⟨m, ?_, by omega, h1⟩
  have e : Tryz.prog.cellsOf 67 = 13 := by kernel_rfl
  rwa [e] at r1
end
end Go.DS

/-
  Arguments of this program's types: configurations, messages.
-/
namespace Go.DS
open Go Go.Proofs Go.ChangeShapes Go.WideShapes Go.RowKit Go.Proofs.YtfmhhincdemhdaaGreat Go.Deep
set_option linter.unusedVariables false
set_option maxRecDepth 100000
set_option linter.unusedSimpArgs false
theorem ints_of {B n : Nat} {ds : List DV} (h : Sh Tryz.prog B (n + 2) 22 ds) : ∃ l : List Int, ds = [.list false 1 (vnums l)] ∧ l.length ≤ B ∧ ∀ x ∈ l, In64 x := by
  obtain ⟨l, rfl, h1, h2⟩ := sh_slice Tryz.underlying22 h
  obtain ⟨m, rfl, h3, h4⟩ := rows_map (F := fun x : Int => [vi x]) (R := In64) (fun r hr => by
    obtain ⟨x, e, q⟩ := sh_int Tryz.underlying3 hr
    exact ⟨x, e, in64 q⟩) l h2
  have e : Tryz.prog.cellsOf 3 = 1 := by kernel_rfl
  exact ⟨m, by rw [e]; rfl, by simpa using h1, h3⟩
theorem strs_of {B n : Nat} {ds : List DV} (h : Sh Tryz.prog B (n + 2) 125 ds) : ∃ l : List Str, ds = [.list false 1 (ts l)] ∧ l.length ≤ B := by
  obtain ⟨l, rfl, h1, h2⟩ := sh_slice Tryz.underlying125 h
  obtain ⟨m, rfl, h3, h4⟩ := rows_map (F := fun x : Str => [vs x]) (R := fun _ => True) (fun r hr => by
    obtain ⟨x, e, q⟩ := sh_str Tryz.underlying9 hr
    exact ⟨x, e, trivial⟩) l h2
  have e : Tryz.prog.cellsOf 9 = 1 := by kernel_rfl
  exact ⟨m, by rw [e]; rfl, by simpa using h1⟩
structure ConOK (B : Nat) (c : Con) : Prop where
  epoch : In64 c.epoch
  len : c.nodes.length ≤ B
  nodes : ∀ x ∈ c.nodes, In64 x
abbrev conL (c : Con) : List DV := [vi c.epoch, .list false 1 (vnums c.nodes)]
theorem con_of {B n : Nat} {ds : List DV} (h : Sh Tryz.prog B (n + 3) 24 ds) : ∃ c : Con, ds = conL c ∧ ConOK B c := by
  obtain ⟨hl, hf⟩ := sh_struct Tryz.underlying24 h
  have hl' : ds.length = 2 := hl.trans (by kernel_rfl)
  match ds, hl' with
  | [d0, d1], _ =>
    obtain ⟨x0, e0, r0⟩ := sh_int Tryz.underlying3 (sh_at hf 0 _ rfl (by kernel_rfl) d0 rfl)
    obtain ⟨x1, e1, r1, r1'⟩ := ints_of (n := n) (sh_at hf 1 _ rfl (by kernel_rfl) d1 rfl)
    cases e0; cases e1
    exact ⟨⟨x0, x1⟩, rfl, in64 r0, r1, r1'⟩
abbrev balL (b : Bal) : List DV := [vi b.no, vi b.node]
theorem bal_of {B n : Nat} {ds : List DV} (h : Sh Tryz.prog B (n + 2) 39 ds) : ∃ x : Bal, ds = balL x ∧ True := by
  obtain ⟨hl, hf⟩ := sh_struct Tryz.underlying39 h
  have hl' : ds.length = 2 := hl.trans (by kernel_rfl)
  match ds, hl' with
  | [d0, d1], _ =>
    obtain ⟨x0, e0, r0⟩ := sh_int Tryz.underlying3 (sh_at hf 0 _ rfl (by kernel_rfl) d0 rfl)
    obtain ⟨x1, e1, r1⟩ := sh_int Tryz.underlying3 (sh_at hf 1 _ rfl (by kernel_rfl) d1 rfl)
    cases e0; cases e1
    exact ⟨⟨x0, x1⟩, rfl, trivial⟩
theorem ins_of {B n : Nat} {ds : List DV} (h : Sh Tryz.prog B (n + 5) 48 ds) : ∃ x : Ins, ds = insL x ∧ True := by
  obtain ⟨hl, hf⟩ := sh_struct Tryz.underlying48 h
  have hl' : ds.length = 15 := hl.trans (by kernel_rfl)
  match ds, hl' with
  | [d0, d1, d2, d3, d4, d5, d6, d7, d8, d9, d10, d11, d12, d13, d14], _ =>
    obtain ⟨x0, e0, r0⟩ := sh_int Tryz.underlying40 (sh_at hf 0 _ rfl (by kernel_rfl) d0 rfl)
    obtain ⟨x1, e1, r1⟩ := bal_of (n := n + 2) (sh_sub hf 1 _ rfl 2 (by kernel_rfl) [d1, d2] rfl)
    obtain ⟨x2, e2, r2⟩ := bal_of (n := n + 2) (sh_sub hf 2 _ rfl 2 (by kernel_rfl) [d3, d4] rfl)
    obtain ⟨x3, e3, r3⟩ := cmd_of (n := n + 2) (sh_sub hf 3 _ rfl 8 (by kernel_rfl) [d5, d6, d7, d8, d9, d10, d11, d12] rfl)
    obtain ⟨x4, e4, r4⟩ := att_of (n := n) (sh_sub hf 4 _ rfl 2 (by kernel_rfl) [d13, d14] rfl)
    cases e0; cases e1; cases e2; cases e3; cases e4
    exact ⟨⟨x0, x1, x2, x3, x4⟩, rfl, trivial⟩
abbrev entL (e : PEnt) : List DV := [vs e.path, vs e.value, vi e.ver]
theorem ent_of {B n : Nat} {ds : List DV} (h : Sh Tryz.prog B (n + 2) 123 ds) : ∃ x : PEnt, ds = entL x ∧ True := by
  obtain ⟨hl, hf⟩ := sh_struct Tryz.underlying123 h
  have hl' : ds.length = 3 := hl.trans (by kernel_rfl)
  match ds, hl' with
  | [d0, d1, d2], _ =>
    obtain ⟨x0, e0, r0⟩ := sh_str Tryz.underlying9 (sh_at hf 0 _ rfl (by kernel_rfl) d0 rfl)
    obtain ⟨x1, e1, r1⟩ := sh_str Tryz.underlying9 (sh_at hf 1 _ rfl (by kernel_rfl) d1 rfl)
    obtain ⟨x2, e2, r2⟩ := sh_int Tryz.underlying3 (sh_at hf 2 _ rfl (by kernel_rfl) d2 rfl)
    cases e0; cases e1; cases e2
    exact ⟨⟨x0, x1, x2⟩, rfl, trivial⟩
abbrev repL (r : Int × Str × Int × List Str) : List DV := [vi r.1, vs r.2.1, vi r.2.2.1, .list false 1 (ts r.2.2.2)]
theorem rep_of {B n : Nat} {ds : List DV} (h : Sh Tryz.prog B (n + 3) 127 ds) : ∃ x : Int × Str × Int × List Str, ds = repL x ∧ True := by
  obtain ⟨hl, hf⟩ := sh_struct Tryz.underlying127 h
  have hl' : ds.length = 4 := hl.trans (by kernel_rfl)
  match ds, hl' with
  | [d0, d1, d2, d3], _ =>
    obtain ⟨x0, e0, r0⟩ := sh_int Tryz.underlying124 (sh_at hf 0 _ rfl (by kernel_rfl) d0 rfl)
    obtain ⟨x1, e1, r1⟩ := sh_str Tryz.underlying9 (sh_at hf 1 _ rfl (by kernel_rfl) d1 rfl)
    obtain ⟨x2, e2, r2⟩ := sh_int Tryz.underlying3 (sh_at hf 2 _ rfl (by kernel_rfl) d2 rfl)
    obtain ⟨x3, e3, r3⟩ := strs_of (n := n) (sh_at hf 3 _ rfl (by kernel_rfl) d3 rfl)
    cases e0; cases e1; cases e2; cases e3
    exact ⟨(x0, x1, x2, x3), rfl, trivial⟩
abbrev sesL (e : PSes) : List DV := [vi e.client, vi e.seq, vi e.err, vs e.value, vi e.ver, .list false 1 (ts e.names)]
theorem ses_of {B n : Nat} {ds : List DV} (h : Sh Tryz.prog B (n + 4) 129 ds) : ∃ x : PSes, ds = sesL x ∧ True := by
  obtain ⟨hl, hf⟩ := sh_struct Tryz.underlying129 h
  have hl' : ds.length = 6 := hl.trans (by kernel_rfl)
  match ds, hl' with
  | [d0, d1, d2, d3, d4, d5], _ =>
    obtain ⟨x0, e0, r0⟩ := sh_int Tryz.underlying3 (sh_at hf 0 _ rfl (by kernel_rfl) d0 rfl)
    obtain ⟨x1, e1, r1⟩ := sh_int Tryz.underlying3 (sh_at hf 1 _ rfl (by kernel_rfl) d1 rfl)
    obtain ⟨x2, e2, r2⟩ := rep_of (n := n) (sh_sub hf 2 _ rfl 4 (by kernel_rfl) [d2, d3, d4, d5] rfl)
    cases e0; cases e1; cases e2
    exact ⟨⟨x0, x1, x2.1, x2.2.1, x2.2.2.1, x2.2.2.2⟩, rfl, trivial⟩
theorem ents_of {B n : Nat} {ds : List DV} (h : Sh Tryz.prog B (n + 3) 49 ds) : ∃ l : List PEnt, ds = [.list false 3 (pes l)] ∧ l.length ≤ B := by
  obtain ⟨l, rfl, h1, h2⟩ := sh_slice Tryz.underlying49 h
  obtain ⟨m, rfl, h3, h4⟩ := rows_map (F := entL) (R := fun _ => True) (fun r hr => ent_of (n := n) hr) l h2
  have e : Tryz.prog.cellsOf 123 = 3 := by kernel_rfl
  exact ⟨m, by rw [e]; rfl, by simpa using h1⟩
theorem sess_of {B n : Nat} {ds : List DV} (h : Sh Tryz.prog B (n + 5) 50 ds) : ∃ l : List PSes, ds = [.list false 6 (pss l)] ∧ l.length ≤ B := by
  obtain ⟨l, rfl, h1, h2⟩ := sh_slice Tryz.underlying50 h
  obtain ⟨m, rfl, h3, h4⟩ := rows_map (F := sesL) (R := fun _ => True) (fun r hr => ses_of (n := n) hr) l h2
  have e : Tryz.prog.cellsOf 129 = 6 := by kernel_rfl
  exact ⟨m, by rw [e]; rfl, by simpa using h1⟩
abbrev snpL (s : Snp) : List DV := [vi s.con.epoch, .list false 1 (vnums s.con.nodes), .list false 3 (pes s.paths), .list false 6 (pss s.sess)]
theorem snp_of {B n : Nat} {ds : List DV} (h : Sh Tryz.prog B (n + 6) 52 ds) : ∃ x : Snp, ds = snpL x ∧ True := by
  obtain ⟨hl, hf⟩ := sh_struct Tryz.underlying52 h
  have hl' : ds.length = 4 := hl.trans (by kernel_rfl)
  match ds, hl' with
  | [d0, d1, d2, d3], _ =>
    obtain ⟨x0, e0, r0⟩ := con_of (n := n + 2) (sh_sub hf 0 _ rfl 2 (by kernel_rfl) [d0, d1] rfl)
    obtain ⟨x1, e1, r1⟩ := ents_of (n := n + 2) (sh_at hf 1 _ rfl (by kernel_rfl) d2 rfl)
    obtain ⟨x2, e2, r2⟩ := sess_of (n := n) (sh_at hf 2 _ rfl (by kernel_rfl) d3 rfl)
    cases e0; cases e1; cases e2
    exact ⟨⟨x0, x1, x2⟩, rfl, trivial⟩
theorem mes_of {B n : Nat} {ds : List DV} (h : Sh Tryz.prog B (n + 7) 54 ds) : ∃ x : Mes, ds = mesL x ∧ True := by
  obtain ⟨hl, hf⟩ := sh_struct Tryz.underlying54 h
  have hl' : ds.length = 27 := hl.trans (by kernel_rfl)
  match ds, hl' with
  | [d0, d1, d2, d3, d4, d5, d6, d7, d8, d9, d10, d11, d12, d13, d14, d15, d16, d17, d18, d19, d20, d21, d22, d23, d24, d25, d26], _ =>
    obtain ⟨x0, e0, r0⟩ := sh_int Tryz.underlying35 (sh_at hf 0 _ rfl (by kernel_rfl) d0 rfl)
    obtain ⟨x1, e1, r1⟩ := sh_int Tryz.underlying3 (sh_at hf 1 _ rfl (by kernel_rfl) d1 rfl)
    obtain ⟨x2, e2, r2⟩ := sh_int Tryz.underlying3 (sh_at hf 2 _ rfl (by kernel_rfl) d2 rfl)
    obtain ⟨x3, e3, r3⟩ := id_of (n := n + 4) (sh_sub hf 3 _ rfl 3 (by kernel_rfl) [d3, d4, d5] rfl)
    obtain ⟨x4, e4, r4⟩ := bal_of (n := n + 4) (sh_sub hf 4 _ rfl 2 (by kernel_rfl) [d6, d7] rfl)
    obtain ⟨x5, e5, r5⟩ := ins_of (n := n + 1) (sh_sub hf 5 _ rfl 15 (by kernel_rfl) [d8, d9, d10, d11, d12, d13, d14, d15, d16, d17, d18, d19, d20, d21, d22] rfl)
    obtain ⟨x6, e6, r6⟩ := snp_of (n := n) (sh_sub hf 6 _ rfl 4 (by kernel_rfl) [d23, d24, d25, d26] rfl)
    cases e0; cases e1; cases e2; cases e3; cases e4; cases e5; cases e6
    exact ⟨⟨x0, x1, x2, x3, x4, x5, x6⟩, rfl, trivial⟩
section
variable {H : Type} {enc : TypeId × Value → H} {W : World} {held : Bool} {B base : Nat} {v : Value} {d : DataW H} {ps : List MemPlace}
theorem arg_con (hv : Value.okWide Tryz.prog W .any base 24 v) (h : DataW.Trod enc Tryz.prog W 0 (fun _ => true) held 24 v d ps) (hb : Rows.uptoBulk d ≤ B + 1) : ∃ c : Con, RelV (gh0 W) (.agg [vi c.epoch, .list false 1 (vnums c.nodes)]) v ∧ ConOK B c := by
  obtain ⟨ds, r1, r2⟩ := arg_struct (n := 3) Tryz.underlying24 (by kernel_rfl) hv h hb
  obtain ⟨c, rfl, hc⟩ := con_of (n := 0) r2
  exact ⟨c, r1, hc⟩
theorem arg_mes (hv : Value.okWide Tryz.prog W .any base 54 v) (h : DataW.Trod enc Tryz.prog W 0 (fun _ => true) held 54 v d ps) (hb : Rows.uptoBulk d ≤ B + 1) : ∃ m : Mes, RelV (gh0 W) (mesD m) v ∧ True := by
  obtain ⟨ds, r1, r2⟩ := arg_struct (n := 7) Tryz.underlying54 (by kernel_rfl) hv h hb
  obtain ⟨c, rfl, hc⟩ := mes_of (n := 0) r2
  exact ⟨c, r1, hc⟩
theorem arg_mess (hv : Value.okWide Tryz.prog W .any base 25 v) (h : DataW.Trod enc Tryz.prog W 0 (fun _ => true) held 25 v d ps) (hb : Rows.uptoBulk d ≤ B + 1) : ∃ l : List Mes, RelV (gh0 W) (.list false 27 (mess l)) v ∧ l.length ≤ B := by
  obtain ⟨l, r1, r2, r3⟩ := arg_slice (n := 7) Tryz.underlying25 (by kernel_rfl) hv h hb
  obtain ⟨m, rfl, h1, h2⟩ := rows_map (F := mesL) (R := fun _ => True) (fun r hr => mes_of (n := 0) hr) l r3
  refine ⟨m, ?_, by omega⟩
  have e : Tryz.prog.cellsOf 54 = 27 := by kernel_rfl
  rwa [e] at r1
end
end Go.DS
