/-
  Walks: the functions of touch.
-/
import Derived.Test.YtpbknejlalkfjaaGreatH8
import Derived.Test.YtpbknejlalkfjaaGreatRows
import Derived.WalkKit
import Derived.ProofKit
import Derived.Deep.Strs
import Derived.ChangeArms
import Derived.DataReads
set_option linter.unusedSimpArgs false
set_option linter.unusedVariables false
namespace Go.DS
open Go Go.Proofs
set_option maxRecDepth 100000
set_option linter.unusedVariables false
set_option linter.unusedSimpArgs false
@[go_sem] theorem ok133 : calleeOK Tryz.prog 133 = true := by kernel_rfl
@[go_sem] theorem ex133 : (cfg.ext 133).isSome = true := rfl
def cd117 : Cd := .seq (R [c0 4 (.tk (.c (kn 2)))] [0, 1]) (.seq (R [c0 5 (.tk (.c (kn 2)))] [0, 1, 5]) (.seq (.seq (R [c0 8 (.mv (.s 1)), c0 9 (.len 1 (.s 8)), c0 10 (.mv (.c (ki .i64 0)))] [0, 5, 8, 9, 10]) (.block 0 (LP [0, 5, 8, 9, 10] (.seq (R [c0 11 (.bin .lss .any (.s 10) (.s 9))] [0, 5, 8, 9, 10, 11]) (.seq (.ite (.s 11) (.skip) (.exit 0)) (.seq (.block 1 (.seq (R [c0 12 (.ixp 1 (.s 8) (.s 10)), c0 13 (.ld false 1 (.s 12)), c0 7 (.tk (.s 13))] [0, 5, 7, 8, 9, 10]) (R [c0 14 (.tk (.s 5)), c0 15 (.mv (.s 0)), c0 16 (.mv (.s 7)), c0 17 (.bld [ks [], ki .u8 0] [(0, 1, (.s 15)), (1, 1, (.s 16))]), c0 18 (.bsl 2 [(.s 17)]), c0 19 (.app 2 27 false (.s 14) (.s 18)), c0 5 (.tk (.s 19))] [0, 5, 8, 9, 10]))) (R [c0 20 (.bin .add .any (.s 10) (.c (ki .i64 1))), c0 10 (.mv (.s 20))] [0, 5, 8, 9, 10]))))))) (.seq (R [c0 21 (.tk (.s 5)), c0 4 (.tk (.s 21))] [4]) (.ret))))
theorem fun117 : Fun Tryz.prog cfg 117 22 cd117 [.s 4] := ⟨rfl, Tryz.f117, _, Tryz.func117, rfl, rfl, by kernel_rfl, by kernel_rfl⟩
@[go_sem] theorem ok117 : calleeOK Tryz.prog 117 = true := by kernel_rfl
@[go_sem] theorem ex117 : (cfg.ext 117).isSome = false := rfl
def cd119 : Cd := .seq (R [c0 2 (.tk (.c (kn 2)))] [0]) (.seq (R [c0 3 (.tk (.c (ki .i64 0)))] [0, 3]) (.seq (.seq (R [c0 9 (.mv (.s 0)), c0 10 (.len 1 (.s 9)), c0 11 (.mv (.c (ki .i64 0)))] [0, 3, 9, 10, 11]) (.block 0 (LP [0, 3, 9, 10, 11] (.seq (R [c0 12 (.bin .lss .any (.s 11) (.s 10))] [0, 3, 9, 10, 11, 12]) (.seq (.ite (.s 12) (.skip) (.exit 0)) (.seq (.block 1 (.seq (R [c0 13 (.ixp 1 (.s 9) (.s 11)), c0 14 (.ldx true false 4 (.s 13)), c0 5 (.tk (.s 14))] [0, 3, 5, 9, 10, 11]) (.seq (R [c0 15 (.mv (.s 3)), c0 16 (.mv (.s 5)), c0 17 (.len 1 (.s 16)), c0 18 (.bin .add .any (.s 15) (.s 17)), c0 3 (.tk (.s 18))] [0, 3, 9, 10, 11]) (.seq (R [c0 19 (.mv (.s 3)), cb 20 (.bin .lss .any (.s 19) (.c (ki .i64 0)))] [0, 3, 9, 10, 11, 20]) (.ite (.s 20) (R [c0 21 (.mki 9 (.c (ks [108, 101, 110, 32, 111, 117, 116, 32, 111, 102, 32, 114, 97, 110, 103, 101]))), cn (.bad)] [0, 3, 9, 10, 11]) (.skip)))))) (R [c0 22 (.bin .add .any (.s 11) (.c (ki .i64 1))), c0 11 (.mv (.s 22))] [0, 3, 9, 10, 11]))))))) (.seq (R [c0 23 (.mv (.s 3)), c0 24 (.call (some true) (.c (kf 133)) [(.c (.sc (.slice none 0 0))), (.s 23)]), c0 6 (.tk (.s 24))] [0, 6]) (.seq (.seq (R [c0 25 (.mv (.s 0)), c0 26 (.len 1 (.s 25)), c0 27 (.mv (.c (ki .i64 0)))] [6, 25, 26, 27]) (.block 2 (LP [6, 25, 26, 27] (.seq (R [c0 28 (.bin .lss .any (.s 27) (.s 26))] [6, 25, 26, 27, 28]) (.seq (.ite (.s 28) (.skip) (.exit 2)) (.seq (.block 3 (.seq (R [c0 29 (.ixp 1 (.s 25) (.s 27)), c0 30 (.ldx true false 4 (.s 29)), c0 8 (.tk (.s 30))] [6, 8, 25, 26, 27]) (R [c0 31 (.tk (.s 6)), c0 32 (.mv (.s 8)), c0 33 (.app 2 27 false (.s 31) (.s 32)), c0 6 (.tk (.s 33))] [6, 25, 26, 27]))) (R [c0 34 (.bin .add .any (.s 27) (.c (ki .i64 1))), c0 27 (.mv (.s 34))] [6, 25, 26, 27]))))))) (.seq (R [c0 35 (.tk (.s 6)), c0 2 (.tk (.s 35))] [2]) (.ret))))))
theorem fun119 : Fun Tryz.prog cfg 119 36 cd119 [.s 2] := ⟨rfl, Tryz.f119, _, Tryz.func119, rfl, rfl, by kernel_rfl, by kernel_rfl⟩
@[go_sem] theorem ok119 : calleeOK Tryz.prog 119 = true := by kernel_rfl
@[go_sem] theorem ex119 : (cfg.ext 119).isSome = false := rfl
def cd120 : Cd := .seq (R [cb 4 (.tk (.c (kb false)))] [0, 1]) (.seq (R [c0 5 (.mv (.s 0)), c0 6 (.mv (.s 1)), c0 7 (.call none (.c (kf 134)) [(.s 5), (.s 6)]), cb 8 (.bin .geq .any (.s 7) (.c (ki .i64 0))), cb 4 (.tk (.s 8))] [4]) (.ret))
theorem fun120 : Fun Tryz.prog cfg 120 9 cd120 [.s 4] := ⟨rfl, Tryz.f120, _, Tryz.func120, rfl, rfl, by kernel_rfl, by kernel_rfl⟩
@[go_sem] theorem ok120 : calleeOK Tryz.prog 120 = true := by kernel_rfl
@[go_sem] theorem ex120 : (cfg.ext 120).isSome = false := rfl
def cd134 : Cd := .seq (R [c0 4 (.tk (.c (ki .i64 0)))] [0, 1]) (.seq (.seq (R [c0 6 (.mv (.s 0)), c0 7 (.len 1 (.s 6)), c0 8 (.mv (.c (ki .i64 0)))] [0, 1, 7, 8]) (.block 0 (LP [0, 1, 7, 8] (.seq (R [c0 9 (.bin .lss .any (.s 8) (.s 7))] [0, 1, 7, 8, 9]) (.seq (.ite (.s 9) (.skip) (.exit 0)) (.seq (.block 1 (.seq (R [c0 10 (.mv (.s 8)), c0 5 (.tk (.s 10))] [0, 1, 5, 7, 8]) (.seq (R [c0 11 (.mv (.s 1)), c0 12 (.mv (.s 0)), c0 13 (.mv (.s 5)), c0 14 (.ixp 2 (.s 12) (.s 13)), c0 15 (.ld true 2 (.s 14)), cb 16 (.call none (.s 11) [(.s 15)])] [0, 1, 5, 7, 8, 16]) (.ite (.s 16) (.seq (R [c0 17 (.mv (.s 5)), c0 4 (.tk (.s 17))] [4]) (.ret)) (.skip))))) (R [c0 18 (.bin .add .any (.s 8) (.c (ki .i64 1))), c0 8 (.mv (.s 18))] [0, 1, 7, 8]))))))) (.seq (R [c0 4 (.tk (.c (ki .i64 (-1))))] [4]) (.ret)))
theorem fun134 : Fun Tryz.prog cfg 134 19 cd134 [.s 4] := ⟨rfl, Tryz.f134, _, Tryz.func134, rfl, rfl, by kernel_rfl, by kernel_rfl⟩
@[go_sem] theorem ok134 : calleeOK Tryz.prog 134 = true := by kernel_rfl
@[go_sem] theorem ex134 : (cfg.ext 134).isSome = false := rfl
def cd121 : Cd := .seq (R [c0 2 (.new false (.s 0)), cb 3 (.tk (.c (kb false)))] [1, 2]) (.seq (R [c0 4 (.ld false 1 (.s 1)), c0 5 (.ld true 2 (.s 2)), cb 6 (.lkp [2, 0] true 2 (kb false) false (.s 4) (.s 5)), cb 3 (.tk (.s 6))] [2, 3]) (.ret))
theorem fun121 : Fun Tryz.prog cfg 121 7 cd121 [.s 3] := ⟨rfl, Tryz.f121, _, Tryz.func121, rfl, rfl, by kernel_rfl, by kernel_rfl⟩
@[go_sem] theorem ok121 : calleeOK Tryz.prog 121 = true := by kernel_rfl
@[go_sem] theorem ex121 : (cfg.ext 121).isSome = false := rfl
def cd97 : Cd := .seq (R [c0 2 (.new false (.s 0)), c0 3 (.new false (.s 1)), cb 4 (.tk (.c (kb false)))] [2, 3, 5, 7]) (.seq (R [c0 8 (.mkm), c0 5 (.new false (.c (.sc (.map none)))), cn (.st 1 (.s 5) (.s 8))] [2, 3, 5, 7]) (.seq (.seq (R [c0 9 (.mov 0 (.s 3)), c0 10 (.ld false 4 (.s 9)), c0 11 (.mov 1 (.s 3)), c0 12 (.ld false 4 (.s 11)), c0 13 (.bsl 1 [(.s 10), (.s 12)]), c0 14 (.call none (.c (kf 119)) [(.s 13)]), c0 15 (.len 1 (.s 14)), c0 16 (.mv (.c (ki .i64 0)))] [2, 3, 5, 7, 14, 15, 16]) (.block 0 (LP [2, 3, 5, 7, 14, 15, 16] (.seq (R [c0 17 (.bin .lss .any (.s 16) (.s 15))] [2, 3, 5, 7, 14, 15, 16, 17]) (.seq (.ite (.s 17) (.skip) (.exit 0)) (.seq (.block 1 (.seq (R [c0 18 (.ixp 2 (.s 14) (.s 16)), c0 19 (.ld true 2 (.s 18)), c0 7 (.new false (.c (.agg [ks [], ki .u8 0]))), cn (.st 2 (.s 7) (.s 19))] [2, 3, 5, 7, 14, 15, 16]) (R [c0 20 (.ld false 1 (.s 5)), c0 21 (.ld true 2 (.s 7)), cn (.mup [2, 0] true 2 (.s 20) (.s 21) (.c (kb true)))] [2, 3, 5, 7, 14, 15, 16]))) (R [c0 22 (.bin .add .any (.s 16) (.c (ki .i64 1))), c0 16 (.mv (.s 22))] [2, 3, 5, 7, 14, 15, 16]))))))) (.seq (R [c0 23 (.mov 1 (.s 2)), c0 24 (.ld false 4 (.s 23)), c0 25 (.mkf (.func 121) 0 [(.s 5)]), cb 26 (.call none (.c (kf 120)) [(.s 24), (.s 25)]), cb 4 (.tk (.s 26))] [2, 3, 4, 5, 7]) (.ret))))
theorem fun97 : Fun Tryz.prog cfg 97 27 cd97 [.s 4] := ⟨rfl, Tryz.f97, _, Tryz.func97, rfl, rfl, by kernel_rfl, by kernel_rfl⟩
@[go_sem] theorem ok97 : calleeOK Tryz.prog 97 = true := by kernel_rfl
@[go_sem] theorem ex97 : (cfg.ext 97).isSome = false := rfl
def cd96 : Cd := .seq (R [c0 1 (.new false (.s 0)), c0 2 (.new false (.c (.agg [kn 2, kn 2])))] [1, 2]) (.seq (R [c0 6 (.mov 3 (.s 1)), c0 7 (.ld false 1 (.s 6)), c0 3 (.tk (.s 7))] [1, 2, 3]) (.seq (.seq (R [c0 8 (.mv (.s 3)), cb 9 (.call none (.c (kf 116)) [(.s 8)]), cb 10 (.un .not (.s 9))] [1, 2, 3, 10]) (.ite (.s 10) (.seq (R [c0 11 (.bld [kz 2, kz 2] []), cn (.st 2 (.s 2) (.s 11))] [1, 2]) (.ret)) (.skip))) (.seq (.seq (R [c0 12 (.mov 2 (.s 1)), c0 13 (.ld false 1 (.s 12))] [1, 2, 3, 13]) (.block 0 (.seq (R [cb 15 (.bin .eql .any (.s 13) (.c (ki .i64 4))), cb 14 (.tk (.s 15))] [1, 2, 3, 13, 14]) (.ite (.s 14) (.seq (R [c0 16 (.mv (.s 3)), c0 17 (.bsl 1 [(.c (ki .u8 101)), (.c (ki .u8 118))]), c0 18 (.call none (.c (kf 117)) [(.s 16), (.s 17)]), c0 19 (.bld [kz 2, kz 2] [(0, 1, (.s 18))]), cn (.st 2 (.s 2) (.s 19))] [1, 2]) (.ret)) (.seq (R [cb 21 (.bin .eql .any (.s 13) (.c (ki .i64 5))), cb 20 (.tk (.s 21))] [1, 2, 3, 20]) (.ite (.s 20) (.seq (R [c0 22 (.mv (.s 3)), c0 23 (.bsl 1 [(.c (ki .u8 101)), (.c (ki .u8 107))]), c0 24 (.call none (.c (kf 117)) [(.s 22), (.s 23)]), c0 25 (.bld [kz 2, kz 2] [(0, 1, (.s 24))]), cn (.st 2 (.s 2) (.s 25))] [1, 2]) (.ret)) (.skip))))))) (.seq (R [c0 26 (.mv (.s 3)), c0 27 (.call none (.c (kf 118)) [(.s 26)]), c0 4 (.tk (.s 27))] [1, 2, 3, 4]) (.seq (R [c0 28 (.mv (.s 4)), cb 29 (.bin .eql .any (.s 28) (.c (ks []))), cb 5 (.tk (.s 29))] [1, 2, 3, 4, 5]) (.seq (.block 1 (.seq (R [c0 31 (.mov 2 (.s 1)), c0 32 (.ld false 1 (.s 31)), cb 33 (.bin .eql .any (.s 32) (.c (ki .i64 1))), cb 34 (.mv (.s 33)), ch 35 34 true (.mv (.s 5)), cb 36 (.pick (.s 34) (.s 35) (.c (kb false))), cb 30 (.tk (.s 36))] [1, 2, 3, 4, 5, 30]) (.ite (.s 30) (.seq (R [c0 37 (.mv (.s 3)), c0 38 (.bsl 1 [(.c (ki .u8 101))]), c0 39 (.call none (.c (kf 117)) [(.s 37), (.s 38)]), c0 40 (.bld [kz 2, kz 2] [(0, 1, (.s 39))]), cn (.st 2 (.s 2) (.s 40))] [1, 2]) (.ret)) (.seq (R [cb 42 (.mv (.s 5)), cb 41 (.tk (.s 42))] [1, 2, 3, 4, 41]) (.ite (.s 41) (.skip) (.seq (R [c0 44 (.mov 2 (.s 1)), c0 45 (.ld false 1 (.s 44)), cb 46 (.bin .eql .any (.s 45) (.c (ki .i64 1))), cb 43 (.tk (.s 46))] [1, 2, 3, 4, 43]) (.ite (.s 43) (.seq (R [c0 47 (.mv (.s 4)), c0 48 (.bsl 1 [(.c (ki .u8 101))]), c0 49 (.call none (.c (kf 117)) [(.s 47), (.s 48)]), c0 50 (.mv (.s 3)), c0 51 (.bsl 1 [(.c (ki .u8 101))]), c0 52 (.call none (.c (kf 117)) [(.s 50), (.s 51)]), c0 53 (.app 2 27 false (.s 49) (.s 52)), c0 54 (.mv (.s 3)), c0 55 (.bsl 1 [(.c (ki .u8 101)), (.c (ki .u8 118))]), c0 56 (.call none (.c (kf 117)) [(.s 54), (.s 55)]), c0 57 (.mv (.s 4)), c0 58 (.bsl 1 [(.c (ki .u8 107))]), c0 59 (.call none (.c (kf 117)) [(.s 57), (.s 58)]), c0 60 (.app 2 27 false (.s 56) (.s 59)), c0 61 (.bld [kz 2, kz 2] [(0, 1, (.s 53)), (1, 1, (.s 60))]), cn (.st 2 (.s 2) (.s 61))] [1, 2]) (.ret)) (.seq (R [c0 63 (.mov 2 (.s 1)), c0 64 (.ld false 1 (.s 63)), cb 65 (.bin .eql .any (.s 64) (.c (ki .i64 2))), cb 62 (.tk (.s 65))] [1, 2, 3, 4, 62]) (.ite (.s 62) (.seq (R [c0 66 (.mv (.s 3)), c0 67 (.bsl 1 [(.c (ki .u8 101)), (.c (ki .u8 107))]), c0 68 (.call none (.c (kf 117)) [(.s 66), (.s 67)]), c0 69 (.mv (.s 3)), c0 70 (.bsl 1 [(.c (ki .u8 101)), (.c (ki .u8 118))]), c0 71 (.call none (.c (kf 117)) [(.s 69), (.s 70)]), c0 72 (.mv (.s 4)), c0 73 (.bsl 1 [(.c (ki .u8 107))]), c0 74 (.call none (.c (kf 117)) [(.s 72), (.s 73)]), c0 75 (.app 2 27 false (.s 71) (.s 74)), c0 76 (.bld [kz 2, kz 2] [(0, 1, (.s 68)), (1, 1, (.s 75))]), cn (.st 2 (.s 2) (.s 76))] [1, 2]) (.ret)) (.seq (R [c0 78 (.mov 2 (.s 1)), c0 79 (.ld false 1 (.s 78)), cb 80 (.bin .eql .any (.s 79) (.c (ki .i64 3))), cb 77 (.tk (.s 80))] [1, 2, 3, 77]) (.ite (.s 77) (.seq (R [c0 81 (.mv (.s 3)), c0 82 (.bsl 1 [(.c (ki .u8 101))]), c0 83 (.call none (.c (kf 117)) [(.s 81), (.s 82)]), c0 84 (.mv (.s 3)), c0 85 (.bsl 1 [(.c (ki .u8 118))]), c0 86 (.call none (.c (kf 117)) [(.s 84), (.s 85)]), c0 87 (.bld [kz 2, kz 2] [(0, 1, (.s 83)), (1, 1, (.s 86))]), cn (.st 2 (.s 2) (.s 87))] [1, 2]) (.ret)) (.seq (R [c0 89 (.mov 2 (.s 1)), c0 90 (.ld false 1 (.s 89)), cb 91 (.bin .eql .any (.s 90) (.c (ki .i64 6))), cb 88 (.tk (.s 91))] [1, 2, 3, 88]) (.ite (.s 88) (.seq (R [c0 92 (.mv (.s 3)), c0 93 (.bsl 1 [(.c (ki .u8 101)), (.c (ki .u8 118))]), c0 94 (.call none (.c (kf 117)) [(.s 92), (.s 93)]), c0 95 (.mv (.s 3)), c0 96 (.bsl 1 [(.c (ki .u8 118))]), c0 97 (.call none (.c (kf 117)) [(.s 95), (.s 96)]), c0 98 (.bld [kz 2, kz 2] [(0, 1, (.s 94)), (1, 1, (.s 97))]), cn (.st 2 (.s 2) (.s 98))] [1, 2]) (.ret)) (.skip)))))))))))))) (.seq (R [c0 99 (.bld [kz 2, kz 2] []), cn (.st 2 (.s 2) (.s 99))] [1, 2]) (.ret))))))))
theorem fun96 : Fun Tryz.prog cfg 96 100 cd96 [.b 2 true 2] := ⟨rfl, Tryz.f96, _, Tryz.func96, rfl, rfl, by kernel_rfl, by kernel_rfl⟩
@[go_sem] theorem ok96 : calleeOK Tryz.prog 96 = true := by kernel_rfl
@[go_sem] theorem ex96 : (cfg.ext 96).isSome = false := rfl
def cd68 : Cd := .seq (R [c0 2 (.new false (.s 0)), c0 3 (.new false (.s 1)), cb 4 (.tk (.c (kb false)))] [2, 3, 5, 6]) (.seq (RD [cd (some 7) false none (.ld true 8 (.s 2)) false false [2], cd (some 8) false none (.call none (.c (kf 96)) [(.s 7)]) false false [7], cd (some 9) false none (.ld true 8 (.s 3)) false false [3], cd (some 10) false none (.call none (.c (kf 96)) [(.s 9)]) false false [9], cd (some 5) false none (.new false (.c (.agg [kn 2, kn 2]))) true false [], cd (some 6) false none (.new false (.c (.agg [kn 2, kn 2]))) true false [], cd none false none (.st 2 (.s 5) (.s 8)) false false [5, 8], cd none false none (.st 2 (.s 6) (.s 10)) false false [6, 10]] [2, 3, 5, 6] []) (.seq (R [c0 11 (.ld true 2 (.s 5)), c0 12 (.ld true 2 (.s 6)), cb 13 (.call none (.c (kf 97)) [(.s 11), (.s 12)]), cb 14 (.mv (.s 13)), cg 15 14 false (.ld true 2 (.s 6)), cg 16 14 false (.ld true 2 (.s 5)), ch 17 14 false (.call none (.c (kf 97)) [(.s 15), (.s 16)]), cb 18 (.pick (.s 14) (.c (kb true)) (.s 17)), cb 4 (.tk (.s 18))] [2, 3, 4, 5, 6]) (.ret)))
theorem fun68 : Fun Tryz.prog cfg 68 19 cd68 [.s 4] := ⟨rfl, Tryz.f68, _, Tryz.func68, rfl, rfl, by kernel_rfl, by kernel_rfl⟩
@[go_sem] theorem ok68 : calleeOK Tryz.prog 68 = true := by kernel_rfl
@[go_sem] theorem ex68 : (cfg.ext 68).isSome = false := rfl
def cd67 : Cd := .seq (R [c0 1 (.new false (.s 0)), cb 2 (.tk (.c (kb false)))] [1]) (.seq (R [c0 3 (.mov 2 (.s 1)), c0 4 (.ld false 1 (.s 3)), cb 5 (.bin .leq .any (.c (ki .i64 7)) (.s 4)), cb 6 (.mv (.s 5)), cg 7 6 true (.mov 2 (.s 1)), cg 8 6 true (.ld false 1 (.s 7)), ch 9 6 true (.bin .leq .any (.s 8) (.c (ki .i64 9))), cb 10 (.pick (.s 6) (.s 9) (.c (kb false))), cb 2 (.tk (.s 10))] [1, 2]) (.ret))
theorem fun67 : Fun Tryz.prog cfg 67 11 cd67 [.s 2] := ⟨rfl, Tryz.f67, _, Tryz.func67, rfl, rfl, by kernel_rfl, by kernel_rfl⟩
@[go_sem] theorem ok67 : calleeOK Tryz.prog 67 = true := by kernel_rfl
@[go_sem] theorem ex67 : (cfg.ext 67).isSome = false := rfl
def cd33 : Cd := .seq (R [c0 2 (.new false (.s 0)), c0 3 (.new false (.s 1)), cb 4 (.tk (.c (kb false)))] [2, 3]) (.seq (.block 0 (.seq (R [c0 6 (.mov 2 (.s 2)), c0 7 (.ld false 1 (.s 6)), cb 8 (.bin .eql .any (.s 7) (.c (ki .i64 0))), cb 9 (.mv (.s 8)), cg 10 9 false (.mov 2 (.s 3)), cg 11 9 false (.ld false 1 (.s 10)), ch 12 9 false (.bin .eql .any (.s 11) (.c (ki .i64 0))), cb 13 (.pick (.s 9) (.c (kb true)) (.s 12)), cb 5 (.tk (.s 13))] [2, 3, 5]) (.ite (.s 5) (.seq (R [cb 4 (.tk (.c (kb false)))] [2, 3, 4]) (.ret)) (.seq (R [c0 15 (.ld true 8 (.s 2)), cb 16 (.call none (.c (kf 67)) [(.s 15)]), cb 17 (.mv (.s 16)), cg 18 17 false (.ld true 8 (.s 3)), ch 19 17 false (.call none (.c (kf 67)) [(.s 18)]), cb 20 (.pick (.s 17) (.c (kb true)) (.s 19)), cb 21 (.mv (.s 20)), cg 22 21 false (.mov 0 (.s 2)), cg 23 21 false (.ld false 1 (.s 22)), cg 24 21 false (.mov 0 (.s 3)), cg 25 21 false (.ld false 1 (.s 24)), ch 26 21 false (.bin .eql .any (.s 23) (.s 25)), cb 27 (.pick (.s 21) (.c (kb true)) (.s 26)), cb 14 (.tk (.s 27))] [2, 3, 14]) (.ite (.s 14) (.seq (R [cb 4 (.tk (.c (kb true)))] [2, 3, 4]) (.ret)) (.skip)))))) (.seq (R [c0 28 (.ld true 8 (.s 2)), c0 29 (.ld true 8 (.s 3)), cb 30 (.call none (.c (kf 68)) [(.s 28), (.s 29)]), cb 4 (.tk (.s 30))] [2, 3, 4]) (.ret)))
theorem fun33 : Fun Tryz.prog cfg 33 31 cd33 [.s 4] := ⟨rfl, Tryz.f33, _, Tryz.func33, rfl, rfl, by kernel_rfl, by kernel_rfl⟩
@[go_sem] theorem ok33 : calleeOK Tryz.prog 33 = true := by kernel_rfl
@[go_sem] theorem ex33 : (cfg.ext 33).isSome = false := rfl
def cd8 : Cd := .seq (R [cb 2 (.tk (.c (kb false)))] [0]) (.seq (.seq (R [c0 3 (.tk (.c (ki .i64 0)))] [0, 3]) (.block 0 (LP [0, 3] (.seq (.seq (R [c0 4 (.mv (.s 3)), c0 5 (.mv (.s 0)), c0 6 (.len 1 (.s 5)), cb 7 (.bin .lss .any (.s 4) (.s 6)), cb 8 (.mv (.s 7)), cg 9 8 true (.mv (.s 3)), ch 10 8 true (.bin .leq .any (.s 9) (.c (ki .i64 60))), cb 11 (.pick (.s 8) (.s 10) (.c (kb false)))] [0, 3, 11]) (.ite (.s 11) (.skip) (.exit 0))) (.seq (.block 1 (.seq (R [c0 14 (.mv (.s 0)), c0 15 (.mv (.s 3)), c0 16 (.ixp 8 (.s 14) (.s 15)), c0 17 (.mov 3 (.s 16)), c0 18 (.ld false 1 (.s 17)), c0 19 (.len 0 (.s 18)), cb 20 (.bin .gtr .any (.s 19) (.c (ki .i64 300))), cb 21 (.mv (.s 20)), cg 22 21 false (.mv (.s 0)), cg 23 21 false (.mv (.s 3)), cg 24 21 false (.ixp 8 (.s 22) (.s 23)), cg 25 21 false (.mov 4 (.s 24)), cg 26 21 false (.ld false 1 (.s 25)), cg 27 21 false (.len 0 (.s 26)), ch 28 21 false (.bin .gtr .any (.s 27) (.c (ki .i64 300))), cb 29 (.pick (.s 21) (.c (kb true)) (.s 28))] [0, 3, 29]) (.ite (.s 29) (.seq (R [cb 2 (.tk (.c (kb true)))] [2]) (.ret)) (.skip)))) (R [c0 12 (.mv (.s 3)), c0 13 (.bin .add .any (.s 12) (.c (ki .i64 1))), c0 3 (.tk (.s 13))] [0, 3])))))) (.seq (R [c0 30 (.mv (.s 0)), c0 31 (.len 1 (.s 30)), cb 32 (.bin .gtr .any (.s 31) (.c (ki .i64 60))), cb 2 (.tk (.s 32))] [2]) (.ret)))
theorem fun8 : Fun Tryz.prog cfg 8 33 cd8 [.s 2] := ⟨rfl, Tryz.f8, _, Tryz.func8, rfl, rfl, by kernel_rfl, by kernel_rfl⟩
@[go_sem] theorem ok8 : calleeOK Tryz.prog 8 = true := by kernel_rfl
@[go_sem] theorem ex8 : (cfg.ext 8).isSome = false := rfl
variable {h : DHeap}
theorem tof_lim (own : Bool) (p : Str) (l : List UInt8) (hl : l.length ≤ 100) : lim Tryz.prog cfg 117 [vs p, .list own 1 (bys l)] h = some (.list true 2 (cls (ofP p l)), h) := by
  refine lim_funp fun117 rfl (by simp) (by simp [heapFree, free_bys]) (by simp [heapFree, free_cls]) ?_
  delta cd117
  simp -implicitDefEqProofs -dsimp only [go_sem]
  refine wp_for (σ := Nat) (fun k => [(0, vs p), (5, .list true 2 (cls (ofP p (l.take k)))), (8, .list false 1 (bys l)), (9, vi (l.length : Nat)), (10, vi (k : Nat))]) (fun _ => []) (fun k => l.length - k) (fun k => k ≤ l.length) 0 (by simp) rfl rfl ?_
  rintro k hk N hN
  have hlen : (ofP p (l.take k)).length = k := by simp [ofP]; omega
  by_cases hlt : k < l.length
  · have h1 : ((k : Int) < (l.length : Int)) := by omega
    have hm : (k + 1) * 27 ≤ maxLenD := by unfold maxLenD; omega
    simp -implicitDefEqProofs -dsimp only [go_sem, h1, hlen, hm]
    refine ⟨hlt, hN (k + 1) _ (by omega) (by omega) ?_⟩
    have e : cls (ofP p (l.take k)) ++ [[vs p, DV.sc (Value.int .u8 l[k].toNat)]] = cls (ofP p (l.take (k + 1))) := by
      rw [List.take_succ_eq_append_getElem hlt]; simp only [cls, ofP, List.map_append, List.map_cons, List.map_nil]
    simp -implicitDefEqProofs -dsimp only [go_sem, wrap_succ (show k < 9223372036854775807 by omega), e]
  · have h1 : ¬ ((k : Int) < (l.length : Int)) := by omega
    have : k = l.length := by omega
    subst this
    simp -implicitDefEqProofs -dsimp only [go_sem, h1, List.take_length]

/-- What lies in rows of rows. -/
def clss (ls : List (List Cel)) : List (List DV) := ls.map fun l => [.list false 2 (cls l)]
@[go_sem] theorem clss_len (l : List (List Cel)) : (clss l).length = l.length := by simp [clss]
@[go_sem high] theorem idxP_clss (l : List (List Cel)) (i : Int) (N : List DV → Prop) : IdxP (clss l) i N = IdxP l i fun c => N [.list false 2 (cls c)] := idxP_map
theorem free_clss : ∀ l : List (List Cel), heapFree.alls (clss l) = true
  | [] => rfl
  | s :: l => by
    have := free_clss l
    simp only [clss] at this
    simp only [clss, List.map_cons, heapFree.alls, heapFree.all, heapFree, this, free_cls, Bool.and_self]
theorem grow_lim (n : Nat) (hn : n ≤ 1048576) : lim Tryz.prog cfg 133 [.sc (.slice none 0 0), vi (n : Nat)] h = some (.list true 2 (cls []), h) := by
  refine lim_ext rfl ?_ rfl
  show (if (0 : Int) ≤ n ∧ (n : Int) ≤ 1048576 then some (DV.list true 2 [], h) else none) = _
  rw [if_pos (by omega)]; rfl
theorem flat_le {ls : List (List Cel)} {l : List Cel} (h : l ∈ ls) : l.length ≤ ls.flatten.length := by
  induction ls with
  | nil => cases h
  | cons a ls ih =>
    simp only [List.flatten_cons, List.length_append]
    rcases List.mem_cons.1 h with rfl | h
    · omega
    · have := ih h; omega
theorem flat_take (ls : List (List Cel)) (k : Nat) (hk : k < ls.length) : (ls.take (k + 1)).flatten = (ls.take k).flatten ++ ls[k] := by
  rw [List.take_succ_eq_append_getElem hk, List.flatten_append, List.flatten_cons, List.flatten_nil, List.append_nil]
theorem flat_take_le (ls : List (List Cel)) (k : Nat) : (ls.take k).flatten.length ≤ ls.flatten.length := by
  conv => rhs; rw [← List.take_append_drop k ls]
  rw [List.flatten_append, List.length_append]
  omega
theorem concat_lim (own : Bool) (ls : List (List Cel)) (hl : ls.length ≤ 1000) (hs : ls.flatten.length ≤ 1000000) : lim Tryz.prog cfg 119 [.list own 1 (clss ls)] h = some (.list true 2 (cls ls.flatten), h) := by
  refine lim_funp fun119 rfl (by simp) (by simp [heapFree, free_clss]) (by simp [heapFree, free_cls]) ?_
  delta cd119
  simp -implicitDefEqProofs -dsimp only [go_sem]
  refine wp_for (σ := Nat) (fun k => [(0, .list false 1 (clss ls)), (3, vi ((ls.take k).flatten.length : Nat)), (9, .list false 1 (clss ls)), (10, vi (ls.length : Nat)), (11, vi (k : Nat))]) (fun _ => []) (fun k => ls.length - k) (fun k => k ≤ ls.length) 0 (by simp) rfl rfl ?_
  rintro k hk N hN
  by_cases hlt : k < ls.length
  · have h1 : ((k : Int) < (ls.length : Int)) := by omega
    have h3 := flat_take ls k hlt
    have h4 := flat_take_le ls (k + 1)
    have h2 : IntKind.wrap .i64 (((ls.take k).flatten.length : Int) + (ls[k].length : Int)) = ((ls.take (k + 1)).flatten.length : Int) := by
      rw [h3] at h4 ⊢
      simp only [List.length_append] at h4 ⊢
      rw [wrap64 (by omega) (by omega)]; omega
    have h5 : ¬ (((ls.take (k + 1)).flatten.length : Int) < 0) := by omega
    simp -implicitDefEqProofs -dsimp only [go_sem, h1, hlt, h2, h5]
    refine hN (k + 1) _ (by omega) (by omega) ?_
    simp -implicitDefEqProofs -dsimp only [go_sem, wrap_succ (show k < 9223372036854775807 by omega)]
  · have h1 : ¬ ((k : Int) < (ls.length : Int)) := by omega
    have : k = ls.length := by omega
    subst this
    have hg := grow_lim (h := []) ls.flatten.length (by omega)
    simp -implicitDefEqProofs -dsimp only [go_sem, h1, List.take_length, hg]
    refine wp_for (σ := Nat) (fun k => [(6, .list true 2 (cls (ls.take k).flatten)), (25, .list false 1 (clss ls)), (26, vi (ls.length : Nat)), (27, vi (k : Nat))]) (fun _ => []) (fun k => ls.length - k) (fun k => k ≤ ls.length) 0 (by simp) rfl rfl ?_
    rintro k hk N hN
    by_cases hlt : k < ls.length
    · have h1 : ((k : Int) < (ls.length : Int)) := by omega
      have h3 := flat_take ls k hlt
      have h4 := flat_take_le ls (k + 1)
      have hm : ((ls.take k).flatten.length + ls[k].length) * 27 ≤ maxLenD := by
        rw [h3] at h4
        simp only [List.length_append] at h4
        unfold maxLenD; omega
      simp -implicitDefEqProofs -dsimp only [go_sem, h1, hlt, hm]
      refine hN (k + 1) _ (by omega) (by omega) ?_
      simp -implicitDefEqProofs -dsimp only [go_sem, wrap_succ (show k < 9223372036854775807 by omega), ← h3]
    · have h1 : ¬ ((k : Int) < (ls.length : Int)) := by omega
      have : k = ls.length := by omega
      subst this
      simp -implicitDefEqProofs -dsimp only [go_sem, h1, List.take_length]

/-- The closure that looks into the set. -/
theorem spoils1_lim (i : Nat) (m : List Cel) (hi : h[i]? = some (.map (mcs m))) (c : Cel) : lim Tryz.prog cfg 121 [.agg [vs c.1, .sc (.int .u8 c.2.toNat)], .eptr [.mp i]] h = some (vb (decide (c ∈ m)), h) := by
  refine lim_fun fun121 rfl (by simp) rfl ?_
  delta cd121
  have hm : ∀ N : List (DV × DV) → Prop, MapP h i N = N (mcs m) := fun N => by simp only [MapP, hi]
  by_cases hc : c ∈ m <;> simp -implicitDefEqProofs -dsimp only [go_sem, hm, find_mcs, hc]
def idxI : Option Nat → Int
  | some n => n
  | none => -1
theorem idxI_some (n : Nat) : idxI (some n) = n := rfl
theorem idxI_none : idxI none = -1 := rfl
theorem tindexFunc_lim (own : Bool) (l : List Cel) (hl : l.length ≤ 1000000) (i : Nat) (m : List Cel) (hi : h[i]? = some (.map (mcs m))) :
    ∃ r : Int, (decide (0 ≤ r) = l.any fun c => decide (c ∈ m)) ∧ lim Tryz.prog cfg 134 [.list own 2 (cls l), .fn (.func 121) [] [.eptr [.mp i]]] h = some (vi r, h) := by
  refine ⟨idxI (l.findIdx? fun c => decide (c ∈ m)), ?_, ?_⟩
  · cases hf : l.findIdx? (fun c => decide (c ∈ m)) with
    | none =>
      have := List.findIdx?_eq_none_iff.1 hf
      rw [idxI_none]
      rw [Bool.eq_iff_iff]
      simp only [decide_eq_true_eq, List.any_eq_true]
      constructor
      · intro h1; omega
      · rintro ⟨c, hc, h1⟩; have := this c hc; simp at this h1; exact (this h1).elim
    | some n =>
      obtain ⟨hn, h1, h2⟩ := List.findIdx?_eq_some_iff_getElem.1 hf
      rw [idxI_some]
      rw [Bool.eq_iff_iff]
      simp only [decide_eq_true_eq, List.any_eq_true]
      exact ⟨fun _ => ⟨l[n], List.getElem_mem _, by simpa using h1⟩, fun _ => by omega⟩
  refine lim_fun fun134 rfl (by simp) rfl ?_
  delta cd134
  simp -implicitDefEqProofs -dsimp only [go_sem]
  refine wp_for (σ := Nat) (fun k => [(0, .list false 2 (cls l)), (1, .fn (.func 121) [] [.eptr [.mp i]]), (7, vi (l.length : Nat)), (8, vi (k : Nat))]) (fun _ => h) (fun k => l.length - k) (fun k => k ≤ l.length ∧ ∀ j (hj : j < l.length), j < k → l[j] ∉ m) 0 (by simp) rfl rfl ?_
  rintro k ⟨hk, hj⟩ N hN
  by_cases hlt : k < l.length
  · have h1 : ((k : Int) < (l.length : Int)) := by omega
    have hx := spoils1_lim i m hi l[k]
    by_cases hc : l[k] ∈ m
    · have e : l.findIdx? (fun c => decide (c ∈ m)) = some k := List.findIdx?_eq_some_iff_getElem.2 ⟨hlt, by simpa using hc, fun j hjk => by simpa using hj j (by omega) hjk⟩
      simp -implicitDefEqProofs -dsimp only [go_sem, h1, hlt, hx, hc, e, idxI_some]
    · simp -implicitDefEqProofs -dsimp only [go_sem, h1, hlt, hx, hc]
      refine hN (k + 1) _ (by omega) ⟨by omega, fun j hj1 hj2 => ?_⟩ ?_
      · by_cases e : j = k
        · subst e; exact hc
        · exact hj j hj1 (by omega)
      · simp -implicitDefEqProofs -dsimp only [go_sem, wrap_succ (show k < 9223372036854775807 by omega)]
  · have h1 : ¬ ((k : Int) < (l.length : Int)) := by omega
    have : k = l.length := by omega
    subst this
    have e : l.findIdx? (fun c => decide (c ∈ m)) = none := List.findIdx?_eq_none_iff.2 fun c hc => by
      obtain ⟨j, hj1, rfl⟩ := List.getElem_of_mem hc
      simpa using hj j hj1 hj1
    simp -implicitDefEqProofs -dsimp only [go_sem, h1, e, idxI_none]
theorem tcontainsFunc_lim (own : Bool) (l : List Cel) (hl : l.length ≤ 1000000) (i : Nat) (m : List Cel) (hi : h[i]? = some (.map (mcs m))) :
    lim Tryz.prog cfg 120 [.list own 2 (cls l), .fn (.func 121) [] [.eptr [.mp i]]] h = some (vb (l.any fun c => decide (c ∈ m)), h) := by
  refine lim_fun fun120 rfl (by simp) rfl ?_
  delta cd120
  obtain ⟨r, hr, hx⟩ := tindexFunc_lim (h := h) false l hl i m hi
  rw [← hr]
  simp -implicitDefEqProofs -dsimp only [go_sem, hx]
  by_cases h0 : 0 ≤ r <;> simp [h0]
abbrev useD (r w : List Cel) : DV := .agg [.list false 2 (cls r), .list false 2 (cls w)]
theorem spoils_lim (r w r' w' : List Cel) (h1 : r.length ≤ 1000) (h2 : w.length ≤ 1000) (h3 : r'.length ≤ 1000) (h4 : w'.length ≤ 1000) :
    lim Tryz.prog cfg 97 [useD r w, useD r' w'] h = some (vb (spoilsP w r' w'), h) := by
  refine lim_funp fun97 rfl (by simp) (by simp [heapFree, heapFree.all, free_cls]) rfl ?_
  delta cd97
  have hc := concat_lim (h := [.map []]) false [r', w'] (by simp) (by simp; omega)
  have hcl : clss [r', w'] = [[.list false 2 (cls r')], [.list false 2 (cls w')]] := rfl
  have hfl : [r', w'].flatten = r' ++ w' := by simp
  rw [hcl, hfl] at hc
  have hu : (r' ++ w').length ≤ 2000 := by simp; omega
  unfold spoilsP
  generalize r' ++ w' = u at hc hu ⊢
  simp -implicitDefEqProofs -dsimp only [go_sem, hc]
  refine wp_for (σ := Nat × DV) (fun x => [(2, .box [.list false 2 (cls r), .list false 2 (cls w)]), (3, .box [.list false 2 (cls r'), .list false 2 (cls w')]), (5, .box [.mp 0]), (7, x.2), (14, .list true 2 (cls u)), (15, vi (u.length : Nat)), (16, vi (x.1 : Nat))]) (fun x => [.map (mcs (insAll (u.take x.1)))]) (fun x => u.length - x.1) (fun x => x.1 ≤ u.length) (0, .junk) (by simp) rfl rfl ?_
  rintro ⟨k, x⟩ hk N hN
  dsimp only at hk
  by_cases hlt : k < u.length
  · have h1 : ((k : Int) < (u.length : Int)) := by omega
    have hs : insC u[k] (insAll (u.take k)) = insAll (u.take (k + 1)) := by rw [List.take_succ_eq_append_getElem hlt, insAll_snoc]
    have hm : ∀ N : List (DV × DV) → Prop, MapP [.map (mcs (insAll (u.take k)))] 0 N = N (mcs (insAll (u.take k))) := fun N => rfl
    simp -implicitDefEqProofs -dsimp only [go_sem, h1, hlt, hm, set_mcs, hs, List.set_cons_zero]
    refine hN (k + 1, .box [vs u[k].1, .sc (.int .u8 u[k].2.toNat)]) _ (by dsimp only; omega) (by dsimp only; omega) ?_
    simp -implicitDefEqProofs -dsimp only [go_sem, wrap_succ (show k < 9223372036854775807 by omega)]
  · have h1 : ¬ ((k : Int) < (u.length : Int)) := by omega
    have : k = u.length := by omega
    subst this
    have hx := tcontainsFunc_lim (h := [.map (mcs (insAll (u.take u.length)))]) false w (by omega) 0 _ rfl
    simp only [List.take_length, mem_insAll] at hx
    generalize (w.any fun c => decide (c ∈ u)) = z at hx ⊢
    cases z <;> simp -implicitDefEqProofs -dsimp only [go_sem, h1, hx, List.take_length]
theorem uses_lim (c : Cmd) (hp : c.path.length ≤ 1099511627776) : lim Tryz.prog cfg 96 [cmdD c] h = some (useD (usesP c).1 (usesP c).2, h) := by
  refine lim_funp fun96 rfl (by simp) rfl (by simp [heapFree, heapFree.all, free_cls]) ?_
  delta cd96
  have v := valid_lim (h := []) c.path hp
  have u := parent_lim (h := []) c.path hp
  have t1 := tof_lim (h := []) false c.path [101] (by simp)
  have t2 := tof_lim (h := []) false c.path [118] (by simp)
  have t3 := tof_lim (h := []) false c.path [101, 118] (by simp)
  have t4 := tof_lim (h := []) false c.path [101, 107] (by simp)
  have t5 := tof_lim (h := []) false (parentP c.path) [101] (by simp)
  have t6 := tof_lim (h := []) false (parentP c.path) [107] (by simp)
  have m1 : (1 + 1) * 27 ≤ maxLenD := by decide
  have m2 : (2 + 1) * 27 ≤ maxLenD := by decide
  simp only [bys, List.map_cons, List.map_nil, UInt8.toNat_ofNat, Nat.reducePow, Nat.reduceMod, Int.cast_ofNat_Int] at t1 t2 t3 t4 t5 t6
  unfold usesP
  cases h1 : parse c.path with
  | none =>
    rw [h1] at v
    simp -implicitDefEqProofs -dsimp only [go_sem, v]
    simp [cls]
  | some l =>
    rw [h1] at v
    by_cases o4 : c.op = 4
    · simp -implicitDefEqProofs -dsimp only [go_sem, v, o4, t3]
      simp [cls]
    by_cases o5 : c.op = 5
    · simp -implicitDefEqProofs -dsimp only [go_sem, v, o4, o5, t4]
      simp [cls]
    by_cases r : parentP c.path = []
    · by_cases o1 : c.op = 1
      · simp -implicitDefEqProofs -dsimp only [go_sem, v, u, r, o1, t1]
        simp [cls]
      · simp -implicitDefEqProofs -dsimp only [go_sem, v, u, r, o4, o5, o1]
        simp [cls]
    by_cases o1 : c.op = 1
    · simp -implicitDefEqProofs -dsimp only [go_sem, v, u, r, o1, t1, t3, t5, t6]
      simp [ofP, maxLenD]
    by_cases o2 : c.op = 2
    · simp -implicitDefEqProofs -dsimp only [go_sem, v, u, r, o2, t1, t3, t4, t5, t6]
      simp [ofP, maxLenD]
    by_cases o3 : c.op = 3
    · simp -implicitDefEqProofs -dsimp only [go_sem, v, u, r, o3, t1, t2]
    by_cases o6 : c.op = 6
    · simp -implicitDefEqProofs -dsimp only [go_sem, v, u, r, o6, t2, t3]
    · simp -implicitDefEqProofs -dsimp only [go_sem, v, u, r, o4, o5, o1, o2, o3, o6]
      simp [cls]
theorem paths_lim (a b : Cmd) (ha : a.path.length ≤ 1099511627776) (hb : b.path.length ≤ 1099511627776) : lim Tryz.prog cfg 68 [cmdD a, cmdD b] h = some (vb (pathsB a b), h) := by
  refine lim_funp fun68 rfl (by simp) rfl rfl ?_
  delta cd68
  have v := uses_lim (h := []) a ha
  have w := uses_lim (h := []) b hb
  have la := uses_le a
  have lb := uses_le b
  have x := spoils_lim (h := []) (usesP a).1 (usesP a).2 (usesP b).1 (usesP b).2 (by omega) (by omega) (by omega) (by omega)
  have y := spoils_lim (h := []) (usesP b).1 (usesP b).2 (usesP a).1 (usesP a).2 (by omega) (by omega) (by omega) (by omega)
  unfold pathsB
  generalize spoilsP (usesP a).2 (usesP b).1 (usesP b).2 = p at x ⊢
  generalize spoilsP (usesP b).2 (usesP a).1 (usesP a).2 = q at y ⊢
  cases p <;> cases q <;> simp -implicitDefEqProofs -dsimp only [go_sem, v, w, x, y]
theorem control_lim (c : Cmd) : lim Tryz.prog cfg 67 [cmdD c] h = some (vb (controlB c), h) := by
  refine lim_funp fun67 rfl (by simp) rfl rfl ?_
  delta cd67
  unfold controlB
  by_cases o1 : 7 ≤ c.op <;> by_cases o2 : c.op ≤ 9 <;> simp -implicitDefEqProofs -dsimp only [go_sem, o1, o2]
set_option maxHeartbeats 2000000 in
theorem both_lim (a b : Cmd) (ha : a.path.length ≤ 1099511627776) (hb : b.path.length ≤ 1099511627776) : lim Tryz.prog cfg 33 [cmdD a, cmdD b] h = some (vb (bothB a b), h) := by
  refine lim_funp fun33 rfl (by simp) rfl rfl ?_
  delta cd33
  have v := control_lim (h := []) a
  have w := control_lim (h := []) b
  have x := paths_lim (h := []) a b ha hb
  unfold bothB
  by_cases o1 : a.op = 0
  · simp -implicitDefEqProofs -dsimp only [go_sem, o1]
    simp
  by_cases o2 : b.op = 0
  · simp -implicitDefEqProofs -dsimp only [go_sem, o1, o2]
    simp
  generalize controlB a = p at v ⊢
  generalize controlB b = q at w ⊢
  generalize pathsB a b = z at x ⊢
  cases p <;> cases q <;> simp -implicitDefEqProofs -dsimp only [go_sem, o1, o2, v, w, x] <;> by_cases o3 : a.client = b.client <;> cases z <;> simp [o3]
theorem over_lim (own : Bool) (l : List Cmd) (hl : l.length ≤ 1099511627776) : lim Tryz.prog cfg 8 [.list own 8 (cms l)] h = some (vb (overP l), h) := by
  refine lim_funp fun8 rfl (by simp) (by simp [heapFree, free_cms]) rfl ?_
  delta cd8
  simp -implicitDefEqProofs -dsimp only [go_sem]
  refine wp_for (σ := Nat) (fun k => [(0, .list false 8 (cms l)), (3, vi (k : Nat))]) (fun _ => []) (fun k => l.length - k) (fun k => k ≤ l.length ∧ k ≤ 61 ∧ (l.take k).any bigC = false) 0 (by simp) rfl rfl ?_
  rintro k ⟨hk, hk2, hj⟩ N hN
  by_cases hlt : k < l.length
  · have h1 : ((k : Int) < (l.length : Int)) := by omega
    by_cases h60 : k ≤ 60
    · have h2 : ((k : Int) ≤ 60) := by omega
      have hs := List.take_succ_eq_append_getElem hlt
      by_cases hb : bigC l[k] = true
      · have ho : overP l = true := by
          have : (l.take 61).any bigC = true := by
            rw [List.any_eq_true]
            exact ⟨l[k], List.mem_take_iff_getElem.2 ⟨k, by omega, rfl⟩, hb⟩
          simp [overP, this]
        rw [ho]
        simp only [bigC, Bool.or_eq_true, decide_eq_true_eq] at hb
        by_cases b1 : 300 < l[k].path.length
        · have b1' : (300 : Int) < (l[k].path.length : Int) := by omega
          simp -implicitDefEqProofs -dsimp only [go_sem, h1, h2, hlt, b1']
        · have b1' : ¬ (300 : Int) < (l[k].path.length : Int) := by omega
          have b2' : (300 : Int) < (l[k].value.length : Int) := by omega
          simp -implicitDefEqProofs -dsimp only [go_sem, h1, h2, hlt, b1', b2']
      · have hb' := hb
        simp only [bigC, Bool.or_eq_true, decide_eq_true_eq, not_or] at hb
        have b1' : ¬ (300 : Int) < (l[k].path.length : Int) := by omega
        have b2' : ¬ (300 : Int) < (l[k].value.length : Int) := by omega
        simp -implicitDefEqProofs -dsimp only [go_sem, h1, h2, hlt, b1', b2']
        refine hN (k + 1) _ (by omega) ⟨by omega, by omega, ?_⟩ ?_
        · rw [hs, List.any_append, hj]; simpa using hb'
        · simp -implicitDefEqProofs -dsimp only [go_sem, wrap_succ (show k < 9223372036854775807 by omega)]
    · have h2 : ¬ ((k : Int) ≤ 60) := by omega
      have h3 : (60 : Int) < (l.length : Int) := by omega
      have ho : overP l = true := by
        unfold overP
        rw [Bool.or_eq_true]
        exact .inr (decide_eq_true (by omega))
      simp -implicitDefEqProofs -dsimp only [go_sem, h1, h2, h3, ho]
  · have h1 : ¬ ((k : Int) < (l.length : Int)) := by omega
    have : k = l.length := by omega
    subst this
    rw [List.take_length] at hj
    have ho : overP l = decide (60 < l.length) := by
      have : (l.take 61).any bigC = false := by rw [List.take_of_length_le (by omega)]; exact hj
      simp [overP, this]
    rw [ho]
    by_cases h3 : 60 < l.length
    · have h4 : (60 : Int) < (l.length : Int) := by omega
      simp -implicitDefEqProofs -dsimp only [go_sem, h1, h3, h4]
    · have h4 : ¬ (60 : Int) < (l.length : Int) := by omega
      simp -implicitDefEqProofs -dsimp only [go_sem, h1, h3, h4]
end Go.DS

/-
  Walks: sets of instances.
-/
namespace Go.DS
open Go Go.Proofs
set_option maxRecDepth 100000
set_option linter.unusedVariables false
set_option linter.unusedSimpArgs false
@[go_sem] theorem ok98 : calleeOK Tryz.prog 98 = true := by kernel_rfl
@[go_sem] theorem ex98 : (cfg.ext 98).isSome = true := rfl
@[go_sem] theorem ok94 : calleeOK Tryz.prog 94 = true := by kernel_rfl
@[go_sem] theorem ex94 : (cfg.ext 94).isSome = true := rfl
def cd75 : Cd := .seq (R [c0 2 (.new false (.s 0)), c0 3 (.new false (.s 1)), cb 4 (.tk (.c (kb false)))] [2, 3]) (.seq (R [c0 5 (.ld true 3 (.s 2)), c0 6 (.ld true 3 (.s 3)), c0 7 (.call none (.c (kf 100)) [(.s 5), (.s 6)]), cb 8 (.bin .lss .any (.s 7) (.c (ki .i64 0))), cb 4 (.tk (.s 8))] [2, 3, 4]) (.ret))
theorem fun75 : Fun Tryz.prog cfg 75 9 cd75 [.s 4] := ⟨rfl, Tryz.f75, _, Tryz.func75, rfl, rfl, by kernel_rfl, by kernel_rfl⟩
@[go_sem] theorem ok75 : calleeOK Tryz.prog 75 = true := by kernel_rfl
@[go_sem] theorem ex75 : (cfg.ext 75).isSome = false := rfl
def cd74 : Cd := .seq (R [cb 4 (.tk (.c (kb false)))] [0, 1]) (.seq (R [c0 5 (.mv (.s 0)), cb 6 (.bin .leq .any (.c (ki .i64 0)) (.s 5)), cb 7 (.mv (.s 6)), cg 8 7 true (.mv (.s 0)), cg 9 7 true (.mv (.s 1)), ch 10 7 true (.bin .leq .any (.s 8) (.s 9)), cb 11 (.pick (.s 7) (.s 10) (.c (kb false))), cb 4 (.tk (.s 11))] [4]) (.ret))
theorem fun74 : Fun Tryz.prog cfg 74 12 cd74 [.s 4] := ⟨rfl, Tryz.f74, _, Tryz.func74, rfl, rfl, by kernel_rfl, by kernel_rfl⟩
@[go_sem] theorem ok74 : calleeOK Tryz.prog 74 = true := by kernel_rfl
@[go_sem] theorem ex74 : (cfg.ext 74).isSome = false := rfl
def cd37 : Cd := .seq (R [c0 1 (.new false (.s 0)), cb 2 (.tk (.c (kb false)))] [1]) (.seq (R [c0 3 (.tk (.c (kf 74)))] [1, 3]) (.seq (R [c0 4 (.mv (.s 3)), c0 5 (.mov 0 (.s 1)), c0 6 (.ld false 1 (.s 5)), cb 7 (.call none (.s 4) [(.s 6), (.c (ki .i64 1048576))]), cb 8 (.mv (.s 7)), cg 9 8 true (.mv (.s 3)), cg 10 8 true (.mov 1 (.s 1)), cg 11 8 true (.ld false 1 (.s 10)), ch 12 8 true (.call none (.s 9) [(.s 11), (.c (ki .i64 31))]), cb 13 (.pick (.s 8) (.s 12) (.c (kb false))), cb 14 (.mv (.s 13)), cg 15 14 true (.mv (.s 3)), cg 16 14 true (.mov 2 (.s 1)), cg 17 14 true (.ld false 1 (.s 16)), ch 18 14 true (.call none (.s 15) [(.s 17), (.c (ki .i64 1099511627776))]), cb 19 (.pick (.s 14) (.s 18) (.c (kb false))), cb 2 (.tk (.s 19))] [1, 2]) (.ret)))
theorem fun37 : Fun Tryz.prog cfg 37 20 cd37 [.s 2] := ⟨rfl, Tryz.f37, _, Tryz.func37, rfl, rfl, by kernel_rfl, by kernel_rfl⟩
@[go_sem] theorem ok37 : calleeOK Tryz.prog 37 = true := by kernel_rfl
@[go_sem] theorem ex37 : (cfg.ext 37).isSome = false := rfl
def cd69 : Cd := .seq (R [c0 2 (.tk (.c (.sc (.map none))))] [0, 7]) (.seq (R [c0 8 (.mkm), c0 3 (.tk (.s 8))] [0, 3, 7]) (.seq (.seq (R [c0 9 (.mv (.s 0)), c0 10 (.len 1 (.s 9)), c0 11 (.mv (.c (ki .i64 0)))] [3, 7, 9, 10, 11]) (.block 0 (LP [3, 7, 9, 10, 11] (.seq (R [c0 12 (.bin .lss .any (.s 11) (.s 10))] [3, 7, 9, 10, 11, 12]) (.seq (.ite (.s 12) (.skip) (.exit 0)) (.seq (.block 1 (.seq (R [c0 13 (.ixp 1 (.s 9) (.s 11)), c0 14 (.ldx true false 5 (.s 13)), c0 5 (.tk (.s 14))] [3, 5, 7, 9, 10, 11]) (.seq (R [c0 15 (.mv (.s 5)), c0 16 (.len 1 (.s 15)), c0 17 (.mv (.c (ki .i64 0)))] [3, 7, 9, 10, 11, 15, 16, 17]) (.block 2 (LP [3, 7, 9, 10, 11, 15, 16, 17] (.seq (R [c0 18 (.bin .lss .any (.s 17) (.s 16))] [3, 7, 9, 10, 11, 15, 16, 17, 18]) (.seq (.ite (.s 18) (.skip) (.exit 2)) (.seq (.block 3 (.seq (R [c0 19 (.ixp 3 (.s 15) (.s 17)), c0 20 (.ld true 3 (.s 19)), c0 7 (.new false (.c (.agg [ki .i64 0, ki .i64 0, ki .i64 0]))), cn (.st 3 (.s 7) (.s 20))] [3, 7, 9, 10, 11, 15, 16, 17]) (R [c0 21 (.mv (.s 3)), c0 22 (.ld true 3 (.s 7)), cn (.mup [0, 0, 0] true 3 (.s 21) (.s 22) (.c (kb true)))] [3, 7, 9, 10, 11, 15, 16, 17]))) (R [c0 23 (.bin .add .any (.s 17) (.c (ki .i64 1))), c0 17 (.mv (.s 23))] [3, 7, 9, 10, 11, 15, 16, 17]))))))))) (R [c0 24 (.bin .add .any (.s 11) (.c (ki .i64 1))), c0 11 (.mv (.s 24))] [3, 7, 9, 10, 11]))))))) (.seq (R [c0 25 (.mv (.s 3)), c0 2 (.tk (.s 25))] [2, 7]) (.ret))))
theorem fun69 : Fun Tryz.prog cfg 69 26 cd69 [.s 2] := ⟨rfl, Tryz.f69, _, Tryz.func69, rfl, rfl, by kernel_rfl, by kernel_rfl⟩
@[go_sem] theorem ok69 : calleeOK Tryz.prog 69 = true := by kernel_rfl
@[go_sem] theorem ex69 : (cfg.ext 69).isSome = false := rfl
def cd99 : Cd := .seq (R [c0 1 (.new true (.s 0)), c0 2 (.tk (.c (.sc .nilFunc)))] [1]) (.seq (R [c0 3 (.mkf (.func 124) 0 [(.s 1)]), c0 2 (.tk (.s 3))] [1, 2]) (.ret))
theorem fun99 : Fun Tryz.prog cfg 99 4 cd99 [.s 2] := ⟨rfl, Tryz.f99, _, Tryz.func99, rfl, rfl, by kernel_rfl, by kernel_rfl⟩
@[go_sem] theorem ok99 : calleeOK Tryz.prog 99 = true := by kernel_rfl
@[go_sem] theorem ex99 : (cfg.ext 99).isSome = false := rfl
def cd70 : Cd := .seq (R [c0 2 (.tk (.c (kn 3)))] [0]) (.seq (R [c0 3 (.mv (.s 0)), c0 4 (.call none (.c (kf 99)) [(.s 3)]), c0 5 (.call none (.c (kf 98)) [(.s 4), (.c (kf 100))]), c0 2 (.tk (.s 5))] [2]) (.ret))
theorem fun70 : Fun Tryz.prog cfg 70 6 cd70 [.s 2] := ⟨rfl, Tryz.f70, _, Tryz.func70, rfl, rfl, by kernel_rfl, by kernel_rfl⟩
@[go_sem] theorem ok70 : calleeOK Tryz.prog 70 = true := by kernel_rfl
@[go_sem] theorem ex70 : (cfg.ext 70).isSome = false := rfl
def cd34 : Cd := .seq (R [c0 2 (.tk (.c (kn 3)))] [0]) (.seq (R [c0 3 (.mv (.s 0)), c0 4 (.bsl 1 [(.s 3)]), c0 5 (.call none (.c (kf 69)) [(.s 4)]), c0 6 (.call none (.c (kf 70)) [(.s 5)]), c0 2 (.tk (.s 6))] [2]) (.ret))
theorem fun34 : Fun Tryz.prog cfg 34 7 cd34 [.s 2] := ⟨rfl, Tryz.f34, _, Tryz.func34, rfl, rfl, by kernel_rfl, by kernel_rfl⟩
@[go_sem] theorem ok34 : calleeOK Tryz.prog 34 = true := by kernel_rfl
@[go_sem] theorem ex34 : (cfg.ext 34).isSome = false := rfl
def cd63 : Cd := .seq (R [c0 4 (.tk (.c (kn 3)))] [0, 1]) (.seq (R [c0 5 (.mv (.s 0)), c0 6 (.mv (.s 1)), c0 7 (.bsl 1 [(.s 5), (.s 6)]), c0 8 (.call none (.c (kf 69)) [(.s 7)]), c0 9 (.call none (.c (kf 70)) [(.s 8)]), c0 4 (.tk (.s 9))] [4]) (.ret))
theorem fun63 : Fun Tryz.prog cfg 63 10 cd63 [.s 4] := ⟨rfl, Tryz.f63, _, Tryz.func63, rfl, rfl, by kernel_rfl, by kernel_rfl⟩
@[go_sem] theorem ok63 : calleeOK Tryz.prog 63 = true := by kernel_rfl
@[go_sem] theorem ex63 : (cfg.ext 63).isSome = false := rfl
def cd64 : Cd := .seq (R [cb 4 (.tk (.c (kb false)))] [0, 1]) (.seq (R [c0 5 (.mv (.s 0)), c0 6 (.bsl 1 [(.s 5)]), c0 7 (.call none (.c (kf 69)) [(.s 6)]), c0 8 (.mv (.s 1)), c0 9 (.bsl 1 [(.s 8)]), c0 10 (.call none (.c (kf 69)) [(.s 9)]), cb 11 (.call none (.c (kf 94)) [(.s 7), (.s 10)]), cb 4 (.tk (.s 11))] [4]) (.ret))
theorem fun64 : Fun Tryz.prog cfg 64 12 cd64 [.s 4] := ⟨rfl, Tryz.f64, _, Tryz.func64, rfl, rfl, by kernel_rfl, by kernel_rfl⟩
@[go_sem] theorem ok64 : calleeOK Tryz.prog 64 = true := by kernel_rfl
@[go_sem] theorem ex64 : (cfg.ext 64).isSome = false := rfl
def cd38 : Cd := .seq (R [cb 2 (.tk (.c (kb false)))] [0]) (.seq (.seq (R [c0 4 (.mv (.s 0)), c0 5 (.len 1 (.s 4)), c0 6 (.bin .sub .any (.s 5) (.c (ki .i64 1))), c0 7 (.mm true (.s 6) (.c (ki .i64 0))), c0 8 (.mv (.c (ki .i64 0)))] [0, 7, 8]) (.block 0 (LP [0, 7, 8] (.seq (R [cb 9 (.bin .lss .any (.s 8) (.s 7))] [0, 7, 8, 9]) (.seq (.ite (.s 9) (.skip) (.exit 0)) (.seq (.block 1 (.seq (R [c0 10 (.mv (.s 8)), c0 3 (.tk (.s 10))] [0, 3, 7, 8]) (.seq (RD [cd (some 11) false none (.mv (.s 0)) false false [0], cd (some 12) false none (.mv (.s 3)) false false [3], cd (some 13) false none (.ixp 3 (.s 11) (.s 12)) false false [11, 12], cd (some 14) false none (.ld true 3 (.s 13)) false false [13], cd (some 15) false none (.mv (.s 0)) false false [0], cd (some 16) false none (.mv (.s 3)) false false [3], cd (some 17) false none (.bin .add .any (.s 16) (.c (ki .i64 1))) false false [16], cd (some 18) false none (.ixp 3 (.s 15) (.s 17)) false false [15, 17], cd (some 19) false none (.ld true 3 (.s 18)) false false [18], cd (some 20) true none (.call none (.c (kf 75)) [(.s 14), (.s 19)]) false false [14, 19], cd (some 21) true none (.un .not (.s 20)) false false [20]] [0, 7, 8, 21] []) (.ite (.s 21) (.seq (R [cb 2 (.tk (.c (kb false)))] [2]) (.ret)) (.skip))))) (R [c0 22 (.bin .add .any (.s 8) (.c (ki .i64 1))), c0 8 (.mv (.s 22))] [0, 7, 8]))))))) (.seq (R [cb 2 (.tk (.c (kb true)))] [2]) (.ret)))
theorem fun38 : Fun Tryz.prog cfg 38 23 cd38 [.s 2] := ⟨rfl, Tryz.f38, _, Tryz.func38, rfl, rfl, by kernel_rfl, by kernel_rfl⟩
@[go_sem] theorem ok38 : calleeOK Tryz.prog 38 = true := by kernel_rfl
@[go_sem] theorem ex38 : (cfg.ext 38).isSome = false := rfl
def cd115 : Cd := .seq (R [c0 3 (.new false (.s 1)), c0 4 (.tk (.c (ki .i64 0)))] [0, 3]) (.seq (.seq (R [c0 6 (.mv (.s 0)), c0 7 (.len 1 (.s 6)), c0 8 (.mv (.c (ki .i64 0)))] [0, 3, 7, 8]) (.block 0 (LP [0, 3, 7, 8] (.seq (R [c0 9 (.bin .lss .any (.s 8) (.s 7))] [0, 3, 7, 8, 9]) (.seq (.ite (.s 9) (.skip) (.exit 0)) (.seq (.block 1 (.seq (R [c0 10 (.mv (.s 8)), c0 5 (.tk (.s 10))] [0, 3, 5, 7, 8]) (.seq (RD [cd (some 11) false none (.ld true 3 (.s 3)) false false [3], cd (some 12) false none (.mv (.s 0)) false false [0], cd (some 13) false none (.mv (.s 5)) false false [5], cd (some 14) false none (.ixp 3 (.s 12) (.s 13)) false false [12, 13], cd (some 15) false none (.ld true 3 (.s 14)) false false [14], cd (some 16) true none (.bin .eql (.flat [0, 0, 0]) (.s 11) (.s 15)) false false [11, 15]] [0, 3, 5, 7, 8, 16] []) (.ite (.s 16) (.seq (R [c0 17 (.mv (.s 5)), c0 4 (.tk (.s 17))] [3, 4]) (.ret)) (.skip))))) (R [c0 18 (.bin .add .any (.s 8) (.c (ki .i64 1))), c0 8 (.mv (.s 18))] [0, 3, 7, 8]))))))) (.seq (R [c0 4 (.tk (.c (ki .i64 (-1))))] [3, 4]) (.ret)))
theorem fun115 : Fun Tryz.prog cfg 115 19 cd115 [.s 4] := ⟨rfl, Tryz.f115, _, Tryz.func115, rfl, rfl, by kernel_rfl, by kernel_rfl⟩
@[go_sem] theorem ok115 : calleeOK Tryz.prog 115 = true := by kernel_rfl
@[go_sem] theorem ex115 : (cfg.ext 115).isSome = false := rfl
def cd95 : Cd := .seq (R [c0 3 (.new false (.s 1)), cb 4 (.tk (.c (kb false)))] [0, 3]) (.seq (R [c0 5 (.mv (.s 0)), c0 6 (.ld true 3 (.s 3)), c0 7 (.call none (.c (kf 115)) [(.s 5), (.s 6)]), cb 8 (.bin .geq .any (.s 7) (.c (ki .i64 0))), cb 4 (.tk (.s 8))] [3, 4]) (.ret))
theorem fun95 : Fun Tryz.prog cfg 95 9 cd95 [.s 4] := ⟨rfl, Tryz.f95, _, Tryz.func95, rfl, rfl, by kernel_rfl, by kernel_rfl⟩
@[go_sem] theorem ok95 : calleeOK Tryz.prog 95 = true := by kernel_rfl
@[go_sem] theorem ex95 : (cfg.ext 95).isSome = false := rfl
def cd65 : Cd := .seq (R [c0 3 (.new false (.s 1)), cb 4 (.tk (.c (kb false)))] [0, 3]) (.seq (R [c0 5 (.mv (.s 0)), c0 6 (.ld true 3 (.s 3)), cb 7 (.call none (.c (kf 95)) [(.s 5), (.s 6)]), cb 4 (.tk (.s 7))] [3, 4]) (.ret))
theorem fun65 : Fun Tryz.prog cfg 65 8 cd65 [.s 4] := ⟨rfl, Tryz.f65, _, Tryz.func65, rfl, rfl, by kernel_rfl, by kernel_rfl⟩
@[go_sem] theorem ok65 : calleeOK Tryz.prog 65 = true := by kernel_rfl
@[go_sem] theorem ex65 : (cfg.ext 65).isSome = false := rfl
variable {h : DHeap}
theorem ordIOK : OrdIOK Tryz.prog 100 := ⟨by kernel_rfl, fun a b => @lim_sound ⟨true⟩ _ _ ext_okA _ _ _ _ _ (MI.ordD_lim (h := []) a b)⟩
theorem lessD_lim (a b : Id) : lim Tryz.prog cfg 75 [.agg [vi a.e, vi a.n, vi a.k], .agg [vi b.e, vi b.n, vi b.k]] h = some (vb (lessI a b), h) := by
  refine lim_funp fun75 rfl (by simp) rfl rfl ?_
  delta cd75
  have e1 := ordD_lim (h := []) a b
  simp -implicitDefEqProofs -dsimp only [go_sem, e1]
  simp [lessI]
theorem in_lim (n m : Int) : lim Tryz.prog cfg 74 [vi n, vi m] h = some (vb (decide (0 ≤ n) && decide (n ≤ m)), h) := by
  refine lim_funp fun74 rfl (by simp) rfl rfl ?_
  delta cd74
  by_cases h1 : 0 ≤ n <;> simp -implicitDefEqProofs -dsimp only [go_sem, h1] <;> simp
theorem validD_lim (x : Id) : lim Tryz.prog cfg 37 [.agg [vi x.e, vi x.n, vi x.k]] h = some (vb (validI x), h) := by
  refine lim_funp fun37 rfl (by simp) rfl rfl ?_
  delta cd37
  have e1 := in_lim (h := []) x.e 1048576
  have e2 := in_lim (h := []) x.n 31
  have e3 := in_lim (h := []) x.k 1099511627776
  unfold validI
  cases h1 : (decide (0 ≤ x.e) && decide (x.e ≤ 1048576)) <;> cases h2 : (decide (0 ≤ x.n) && decide (x.n ≤ 31)) <;> cases h3 : (decide (0 ≤ x.k) && decide (x.k ≤ 1099511627776)) <;> rw [h1] at e1 <;> rw [h2] at e2 <;> rw [h3] at e3 <;>
    simp -implicitDefEqProofs -dsimp only [go_sem, e1, e2, e3] <;> simp [h1, h2, h3]
theorem set_setD (c : Id) : ∀ l : List Id, setKey [0, 0, 0] (.agg [vi c.e, vi c.n, vi c.k]) (.sc (.bool true)) (setD l) = some (setD (insI c l))
  | [] => rfl
  | d :: l => by
    have ih := set_setD c l
    simp only [setD] at ih
    simp only [setD, List.map_cons, setKey, eqK_id]
    by_cases h : c = d
    · subst h; simp [insI]
    · simp only [h, decide_false, ih, Option.map_some, Option.some.injEq]
      have : insI c (d :: l) = d :: insI c l := by
        unfold insI
        simp only [List.mem_cons, h, false_or]
        split <;> rfl
      rw [this]; rfl
/-- Rows of rows of instances. -/
def idrs (ls : List (List Id)) : List (List DV) := ls.map fun l => [.list false 3 (idr l)]
@[go_sem] theorem idrs_len (l : List (List Id)) : (idrs l).length = l.length := by simp [idrs]
@[go_sem high] theorem idxP_idrs (l : List (List Id)) (i : Int) (N : List DV → Prop) : IdxP (idrs l) i N = IdxP l i fun c => N [.list false 3 (idr c)] := idxP_map
theorem flatI_take (ls : List (List Id)) (k : Nat) (hk : k < ls.length) : (ls.take (k + 1)).flatten = (ls.take k).flatten ++ ls[k] := by
  rw [List.take_succ_eq_append_getElem hk, List.flatten_append, List.flatten_cons, List.flatten_nil, List.append_nil]
theorem mapNew (h : DHeap) (o : DObj) : (h ++ [o])[h.length]? = some o := by simp
theorem mapP_new (h : DHeap) (es : List (DV × DV)) (N : List (DV × DV) → Prop) : MapP (h ++ [.map es]) h.length N = N es := by simp [MapP]
theorem set_new (h : DHeap) (o o' : DObj) : (h ++ [o]).set h.length o' = h ++ [o'] := by simp
theorem ofD_lim (own : Bool) (ls : List (List Id)) (hl : ls.length ≤ 1000000) (hs : ∀ l ∈ ls, l.length ≤ 1099511627776) :
    lim Tryz.prog cfg 69 [.list own 1 (idrs ls)] h = some (.mp h.length, h ++ [.map (setD (setOf ls.flatten))]) := by
  refine lim_fun fun69 rfl (by simp) rfl ?_
  delta cd69
  simp -implicitDefEqProofs -dsimp only [go_sem]
  refine wp_for (σ := Nat × DV) (fun k => [(3, .mp h.length), (7, k.2), (9, .list false 1 (idrs ls)), (10, vi (ls.length : Nat)), (11, vi (k.1 : Nat))]) (fun k => h ++ [.map (setD (setOf (ls.take k.1).flatten))]) (fun k => ls.length - k.1) (fun k => k.1 ≤ ls.length) (0, .junk) (by simp) rfl rfl ?_
  rintro ⟨k, x⟩ hk N hN
  dsimp only at hk ⊢
  by_cases hlt : k < ls.length
  · have h1 : ((k : Int) < (ls.length : Int)) := by omega
    have hll := hs _ (List.getElem_mem hlt)
    simp -implicitDefEqProofs -dsimp only [go_sem, h1, hlt]
    refine wp_for (σ := Nat × DV) (fun j => [(3, .mp h.length), (7, j.2), (9, .list false 1 (idrs ls)), (10, vi (ls.length : Nat)), (11, vi (k : Nat)), (15, .list false 3 (idr ls[k])), (16, vi (ls[k].length : Nat)), (17, vi (j.1 : Nat))]) (fun j => h ++ [DObj.map (setD (setOf ((ls.take k).flatten ++ ls[k].take j.1)))]) (fun j => ls[k].length - j.1) (fun j => j.1 ≤ ls[k].length) (0, x) (by simp) rfl (by simp) ?_
    rintro ⟨j, y⟩ hj M hM
    dsimp only at hj ⊢
    by_cases hjt : j < ls[k].length
    · have h2 : ((j : Int) < (ls[k].length : Int)) := by omega
      have e : insI ls[k][j] (setOf ((ls.take k).flatten ++ ls[k].take j)) = setOf ((ls.take k).flatten ++ ls[k].take (j + 1)) := by
        rw [List.take_succ_eq_append_getElem hjt, ← List.append_assoc, setOf_snoc]
      simp -implicitDefEqProofs -dsimp only [go_sem, h2, hjt, mapP_new, set_setD, set_new, e]
      refine hM (j + 1, .box [vi ls[k][j].e, vi ls[k][j].n, vi ls[k][j].k]) _ (by dsimp only; omega) (by dsimp only; omega) ?_
      simp -implicitDefEqProofs -dsimp only [go_sem, wrap_succ (show j < 9223372036854775807 by omega)]
    · have h2 : ¬ ((j : Int) < (ls[k].length : Int)) := by omega
      have hj2 : ls[k].take j = ls[k] := List.take_of_length_le (by omega)
      simp -implicitDefEqProofs -dsimp only [go_sem, h2]
      rw [hj2, ← flatI_take ls k hlt]
      refine hN (k + 1, y) _ (by dsimp only; omega) (by dsimp only; omega) ?_
      simp -implicitDefEqProofs -dsimp only [go_sem, wrap_succ (show k < 9223372036854775807 by omega)]
  · have h1 : ¬ ((k : Int) < (ls.length : Int)) := by omega
    have hkl : ls.take k = ls := List.take_of_length_le (by omega)
    rw [hkl]
    simp -implicitDefEqProofs -dsimp only [go_sem, h1]
theorem keysD_lim (j : Nat) : lim Tryz.prog cfg 99 [.mp j] h = some (.fn (.func 124) [] [.ptr h.length 0], h ++ [.cells [.mp j]]) := by
  refine lim_fun fun99 rfl (by simp) rfl ?_
  delta cd99
  simp -implicitDefEqProofs -dsimp only [go_sem]
theorem setD_keys (l : List Id) : (setD l).map (fun e => keyD e.1) = l := by
  simp only [setD, List.map_map]
  exact (List.map_congr_left fun e _ => rfl).trans (List.map_id l)
theorem keysDOK {l : List Id} (hn : l.Nodup) (hl : l.length ≤ 1048576) : KeysDOK (setD l) l := ⟨by simp only [setD, List.map_map]; rfl, hn, hl⟩
theorem sortedD_lim {i j : Nat} {l : List Id} (hn : l.Nodup) (hl : l.length ≤ 1048576) (hi : h[i]? = some (.cells [.mp j])) (hj : h[j]? = some (.map (setD l))) :
    lim Tryz.prog cfg 98 [.fn (.func 124) [] [.ptr i 0], .fn (.func 100) [] []] h = some (.list true 3 (idr (sortD l)), h) := by
  refine lim_ext rfl ?_ rfl
  show keysDF _ _ _ [.fn (.func 124) [] [.ptr i 0], .fn (.func 100) [] []] h = _
  simp only [keysDF, hi, hj]
  generalize hks : (setD l).map (fun e => keyD e.1) = ks
  rw [setD_keys] at hks
  subst hks
  rw [if_pos ⟨rfl, rfl, keysDOK hn hl, ordIOK⟩]
theorem listD_lim {j : Nat} {l : List Id} (hn : l.Nodup) (hl : l.length ≤ 1048576) (hj : h[j]? = some (.map (setD l))) :
    lim Tryz.prog cfg 70 [.mp j] h = some (.list true 3 (idr (sortD l)), h ++ [.cells [.mp j]]) := by
  refine lim_fun fun70 rfl (by simp) rfl ?_
  delta cd70
  have e1 := keysD_lim (h := h) j
  have e2 := sortedD_lim (h := h ++ [.cells [.mp j]]) (i := h.length) (j := j) hn hl (by simp) (by rw [List.getElem?_append_left (List.getElem?_eq_some_iff.1 hj).1]; exact hj)
  simp -implicitDefEqProofs -dsimp only [go_sem, e1, e2]
theorem cleanD_lim (own : Bool) (l : List Id) (hl : l.length ≤ 1048576) : lim Tryz.prog cfg 34 [.list own 3 (idr l)] h = some (.list true 3 (idr (cleanP l)), h) := by
  refine lim_funp fun34 rfl (by simp) (by simp [heapFree, free_idr]) (by simp [heapFree, free_idr]) ?_
  delta cd34
  have e1 := ofD_lim (h := []) false [l] (by simp) (by simp; omega)
  have e2 := listD_lim (h := [.map (setD (setOf l))]) (j := 0) (l := setOf l) (setOf_nodup l) (by have := setOf_len l; omega) rfl
  simp only [idrs, List.map_cons, List.map_nil, List.flatten_cons, List.flatten_nil, List.append_nil, List.length_nil, List.nil_append] at e1
  simp -implicitDefEqProofs -dsimp only [go_sem, e1, e2]
  rfl
theorem unionD_lim (o1 o2 : Bool) (l m : List Id) (hl : l.length + m.length ≤ 1048576) : lim Tryz.prog cfg 63 [.list o1 3 (idr l), .list o2 3 (idr m)] h = some (.list true 3 (idr (cleanP (l ++ m))), h) := by
  refine lim_funp fun63 rfl (by simp) (by simp [heapFree, free_idr]) (by simp [heapFree, free_idr]) ?_
  delta cd63
  have e1 := ofD_lim (h := []) false [l, m] (by simp) (by simp; omega)
  have e2 := listD_lim (h := [.map (setD (setOf (l ++ m)))]) (j := 0) (l := setOf (l ++ m)) (setOf_nodup _) (by have := setOf_len (l ++ m); simp at this; omega) rfl
  simp only [idrs, List.map_cons, List.map_nil, List.flatten_cons, List.flatten_nil, List.append_nil, List.length_nil, List.nil_append] at e1
  simp -implicitDefEqProofs -dsimp only [go_sem, e1, e2]
  rfl
@[go_sem] theorem eqs_id (x y : Id) : eqs [0, 0, 0] [vi x.e, vi x.n, vi x.k] [vi y.e, vi y.n, vi y.k] = some (decide (x = y)) := by
  have := eqK_id x y
  simpa [eqKey] using this
theorem equalD_lim {i j : Nat} {l m : List Id} (hl : l.Nodup) (hm : m.Nodup) (h1 : l.length ≤ 1048576) (h2 : m.length ≤ 1048576) (hi : h[i]? = some (.map (setD l))) (hj : h[j]? = some (.map (setD m))) :
    lim Tryz.prog cfg 94 [.mp i, .mp j] h = some (vb (sameP l m), h) := by
  refine lim_ext rfl ?_ rfl
  show equalDF [.mp i, .mp j] h = _
  simp only [equalDF, hi, hj]
  generalize hks : (setD l).map (fun e => keyD e.1) = ks
  generalize hms : (setD m).map (fun e => keyD e.1) = ms
  rw [setD_keys] at hks hms
  subst hks; subst hms
  rw [if_pos ⟨keysDOK hl h1, keysDOK hm h2, rfl, rfl⟩]
theorem same_setOf (l m : List Id) : sameP (setOf l) (setOf m) = sameP l m := by
  rw [Bool.eq_iff_iff, sameP_iff, sameP_iff]
  simp only [mem_setOf]
theorem sameD_lim (o1 o2 : Bool) (l m : List Id) (h1 : l.length ≤ 1048576) (h2 : m.length ≤ 1048576) : lim Tryz.prog cfg 64 [.list o1 3 (idr l), .list o2 3 (idr m)] h = some (vb (sameP l m), h) := by
  refine lim_funp fun64 rfl (by simp) (by simp [heapFree, free_idr]) rfl ?_
  delta cd64
  have e1 := ofD_lim (h := []) false [l] (by simp) (by simp; omega)
  have e2 := ofD_lim (h := [.map (setD (setOf l))]) false [m] (by simp) (by simp; omega)
  have e3 := equalD_lim (h := [.map (setD (setOf l)), .map (setD (setOf m))]) (i := 0) (j := 1) (setOf_nodup l) (setOf_nodup m) (by have := setOf_len l; omega) (by have := setOf_len m; omega) rfl rfl
  rw [same_setOf] at e3
  simp only [idrs, List.map_cons, List.map_nil, List.flatten_cons, List.flatten_nil, List.append_nil, List.length_nil, List.nil_append, List.length_cons, List.cons_append] at e1 e2
  cases hc : sameP l m <;> rw [hc] at e3 <;> simp -implicitDefEqProofs -dsimp only [go_sem, e1, e2, e3]
theorem rightI_of (l : List Id) : rightI l = true ↔ ∀ i (h : i + 1 < l.length), lessI (l[i]'(by omega)) l[i + 1] = true := by
  induction l with
  | nil => simp [rightI]
  | cons a l ih =>
    cases l with
    | nil => simp [rightI]
    | cons b l =>
      simp only [rightI, Bool.and_eq_true, ih]
      constructor
      · rintro ⟨h1, h2⟩ i hi
        cases i with
        | zero => exact h1
        | succ i => exact h2 i (by simpa using hi)
      · intro hh
        exact ⟨hh 0 (by simp), fun i hi => hh (i + 1) (by simpa using hi)⟩
theorem rightD_lim (own : Bool) (l : List Id) (hl : l.length ≤ 1099511627776) : lim Tryz.prog cfg 38 [.list own 3 (idr l)] h = some (vb (rightI l), h) := by
  refine lim_funp fun38 rfl (by simp) (by simp [heapFree, free_idr]) rfl ?_
  delta cd38
  have w1 : IntKind.wrap .i64 ((l.length : Int) - 1) = (l.length : Int) - 1 := wrap64 (by omega) (by omega)
  have w2 : mmI true ((l.length : Int) - 1) 0 = ((l.length - 1 : Nat) : Int) := by unfold mmI; simp only [if_true]; split <;> omega
  simp -implicitDefEqProofs -dsimp only [go_sem, w1, w2]
  refine wp_for (σ := Nat) (fun k => [(0, .list false 3 (idr l)), (7, vi ((l.length - 1 : Nat) : Int)), (8, vi (k : Nat))]) (fun _ => []) (fun k => l.length - k) (fun k => k ≤ l.length - 1 ∧ ∀ i (h : i + 1 < l.length), i < k → lessI (l[i]'(by omega)) l[i + 1] = true) 0 (by simp) rfl rfl ?_
  rintro k ⟨hk, hb⟩ N hN
  by_cases hlt : k < l.length - 1
  · have h1 : ((k : Int) < ((l.length - 1 : Nat) : Int)) := by omega
    have i1 : k < l.length := by omega
    have i2 : k + 1 < l.length := by omega
    have e1 := lessD_lim (h := []) l[k] l[k + 1]
    have w3 : IntKind.wrap .i64 ((k : Int) + 1) = ((k + 1 : Nat) : Int) := wrap_succ (show k < 9223372036854775807 by omega)
    cases hc : lessI l[k] l[k + 1] with
    | true =>
      rw [hc] at e1
      simp -implicitDefEqProofs -dsimp only [go_sem, wp_RD, h1, i1, i2, w3, e1]
      refine hN (k + 1) _ (by omega) ⟨by omega, fun i hi hik => ?_⟩ ?_
      · by_cases e : i = k
        · subst e; exact hc
        · exact hb i hi (by omega)
      · simp -implicitDefEqProofs -dsimp only [go_sem]
    | false =>
      rw [hc] at e1
      have hr : rightI l = false := by
        rw [Bool.eq_false_iff]
        intro e
        rw [rightI_of] at e
        rw [e k i2] at hc
        cases hc
      rw [hr]
      simp -implicitDefEqProofs -dsimp only [go_sem, wp_RD, h1, i1, i2, w3, e1]
  · have h1 : ¬ ((k : Int) < ((l.length - 1 : Nat) : Int)) := by omega
    have hr : rightI l = true := (rightI_of l).2 fun i hi => hb i hi (by omega)
    rw [hr]
    simp -implicitDefEqProofs -dsimp only [go_sem, h1]
theorem indexD_lim (own : Bool) (l : List Id) (x : Id) (hl : l.length ≤ 1099511627776) :
    lim Tryz.prog cfg 115 [.list own 3 (idr l), .agg [vi x.e, vi x.n, vi x.k]] h = some (vi (posI (fun y => decide (x = y)) l), h) := by
  refine lim_funp fun115 rfl (by simp) (by simp [heapFree, heapFree.all, free_idr]) rfl ?_
  delta cd115
  simp -implicitDefEqProofs -dsimp only [go_sem]
  refine wp_for (σ := Nat) (fun k => [(0, .list false 3 (idr l)), (3, .box [vi x.e, vi x.n, vi x.k]), (7, vi (l.length : Nat)), (8, vi (k : Nat))]) (fun _ => []) (fun k => l.length - k) (fun k => k ≤ l.length ∧ ∀ j (hj : j < l.length), j < k → decide (x = l[j]) = false) 0 (by simp) rfl rfl ?_
  rintro k ⟨hk, hj⟩ N hN
  by_cases hlt : k < l.length
  · have h1 : ((k : Int) < (l.length : Int)) := by omega
    by_cases hc : x = l[k]
    · have e := posI_at (p := fun y => decide (x = y)) hlt (by simpa using hc) hj
      simp -implicitDefEqProofs -dsimp only [go_sem, wp_RD, h1, hlt, eq_true hc, e]
    · simp -implicitDefEqProofs -dsimp only [go_sem, wp_RD, h1, hlt, eq_false hc]
      refine hN (k + 1) _ (by omega) ⟨by omega, fun j hj1 hj2 => ?_⟩ ?_
      · by_cases e : j = k
        · subst e; simpa using hc
        · exact hj j hj1 (by omega)
      · simp -implicitDefEqProofs -dsimp only [go_sem, wrap_succ (show k < 9223372036854775807 by omega)]
  · have h1 : ¬ ((k : Int) < (l.length : Int)) := by omega
    have e := posI_no (p := fun y => decide (x = y)) (l := l) fun j hj1 => hj j hj1 (by omega)
    simp -implicitDefEqProofs -dsimp only [go_sem, h1, e]
theorem any_mem {α : Type} [DecidableEq α] (x : α) (l : List α) : l.any (fun y => decide (x = y)) = decide (x ∈ l) := by
  rw [Bool.eq_iff_iff]
  simp only [List.any_eq_true, decide_eq_true_eq]
  exact ⟨fun ⟨y, hy, e⟩ => e ▸ hy, fun h => ⟨x, h, rfl⟩⟩
theorem containsD_lim (own : Bool) (l : List Id) (x : Id) (hl : l.length ≤ 1099511627776) :
    lim Tryz.prog cfg 95 [.list own 3 (idr l), .agg [vi x.e, vi x.n, vi x.k]] h = some (vb (decide (x ∈ l)), h) := by
  refine lim_funp fun95 rfl (by simp) (by simp [heapFree, heapFree.all, free_idr]) rfl ?_
  delta cd95
  have e1 := indexD_lim (h := []) false l x hl
  have e2 := posI_ge (fun y => decide (x = y)) l
  rw [any_mem] at e2
  simp -implicitDefEqProofs -dsimp only [go_sem, e1, e2]
  simp
theorem hasD_lim (own : Bool) (l : List Id) (x : Id) (hl : l.length ≤ 1099511627776) :
    lim Tryz.prog cfg 65 [.list own 3 (idr l), .agg [vi x.e, vi x.n, vi x.k]] h = some (vb (decide (x ∈ l)), h) := by
  refine lim_funp fun65 rfl (by simp) (by simp [heapFree, heapFree.all, free_idr]) rfl ?_
  delta cd65
  have e1 := containsD_lim (h := []) false l x hl
  simp -implicitDefEqProofs -dsimp only [go_sem, e1]
  simp
end Go.DS

/-
  Walks: attributes.
-/
namespace Go.DS
open Go Go.Proofs
set_option maxRecDepth 100000
set_option linter.unusedVariables false
set_option linter.unusedSimpArgs false
def cd13 : Cd := .seq (R [c0 2 (.new false (.s 0)), c0 3 (.new false (.s 1)), cb 4 (.tk (.c (kb false)))] [2, 3, 6]) (.seq (.seq (R [c0 7 (.mov 1 (.s 3)), c0 8 (.ld false 5 (.s 7)), c0 9 (.len 1 (.s 8)), c0 10 (.mv (.c (ki .i64 0)))] [2, 3, 6, 8, 9, 10]) (.block 0 (LP [2, 3, 6, 8, 9, 10] (.seq (R [c0 11 (.bin .lss .any (.s 10) (.s 9))] [2, 3, 6, 8, 9, 10, 11]) (.seq (.ite (.s 11) (.skip) (.exit 0)) (.seq (.block 1 (.seq (R [c0 12 (.ixp 3 (.s 8) (.s 10)), c0 13 (.ld true 3 (.s 12)), c0 6 (.new false (.c (.agg [ki .i64 0, ki .i64 0, ki .i64 0]))), cn (.st 3 (.s 6) (.s 13))] [2, 3, 6, 8, 9, 10]) (.seq (R [c0 14 (.ld true 3 (.s 6)), c0 15 (.ld true 3 (.s 2)), cb 16 (.bin .eql (.flat [0, 0, 0]) (.s 14) (.s 15)), cb 17 (.mv (.s 16)), cg 18 17 false (.mov 0 (.s 6)), cg 19 17 false (.ld false 1 (.s 18)), cg 20 17 false (.mov 0 (.s 2)), cg 21 17 false (.ld false 1 (.s 20)), ch 22 17 false (.bin .neq .any (.s 19) (.s 21)), cb 23 (.pick (.s 17) (.c (kb true)) (.s 22)), cb 24 (.mv (.s 23)), cg 25 24 false (.ld true 3 (.s 6)), ch 26 24 false (.call none (.c (kf 37)) [(.s 25)]), ch 27 24 false (.un .not (.s 26)), cb 28 (.pick (.s 24) (.c (kb true)) (.s 27))] [2, 3, 6, 8, 9, 10, 28]) (.ite (.s 28) (.seq (R [cb 4 (.tk (.c (kb false)))] [2, 3, 4, 6]) (.ret)) (.skip))))) (R [c0 29 (.bin .add .any (.s 10) (.c (ki .i64 1))), c0 10 (.mv (.s 29))] [2, 3, 6, 8, 9, 10]))))))) (.seq (R [c0 30 (.mov 0 (.s 3)), c0 31 (.ld false 1 (.s 30)), cb 32 (.bin .leq .any (.c (ki .i64 0)) (.s 31)), cb 33 (.mv (.s 32)), cg 34 33 true (.mov 0 (.s 3)), cg 35 33 true (.ld false 1 (.s 34)), ch 36 33 true (.bin .leq .any (.s 35) (.c (ki .i64 1099511627776))), cb 37 (.pick (.s 33) (.s 36) (.c (kb false))), cb 38 (.mv (.s 37)), cg 39 38 true (.mov 1 (.s 3)), cg 40 38 true (.ld false 5 (.s 39)), cg 41 38 true (.len 1 (.s 40)), ch 42 38 true (.bin .leq .any (.s 41) (.c (ki .i64 1024))), cb 43 (.pick (.s 38) (.s 42) (.c (kb false))), cb 44 (.mv (.s 43)), cg 45 44 true (.mov 1 (.s 3)), cg 46 44 true (.ld false 5 (.s 45)), ch 47 44 true (.call none (.c (kf 38)) [(.s 46)]), cb 48 (.pick (.s 44) (.s 47) (.c (kb false))), cb 4 (.tk (.s 48))] [2, 3, 4, 6]) (.ret)))
theorem fun13 : Fun Tryz.prog cfg 13 49 cd13 [.s 4] := ⟨rfl, Tryz.f13, _, Tryz.func13, rfl, rfl, by kernel_rfl, by kernel_rfl⟩
@[go_sem] theorem ok13 : calleeOK Tryz.prog 13 = true := by kernel_rfl
@[go_sem] theorem ex13 : (cfg.ext 13).isSome = false := rfl
def cd32 : Cd := .seq (R [c0 3 (.new false (.s 0)), cb 4 (.tk (.c (kb false)))] [1, 2, 3]) (.seq (R [c0 5 (.mov 0 (.s 3)), c0 6 (.ld true 3 (.s 5)), c0 7 (.ld true 3 (.s 1)), cb 8 (.bin .neq (.flat [0, 0, 0]) (.s 6) (.s 7)), cb 9 (.mv (.s 8)), cg 10 9 true (.mov 0 (.s 3)), cg 11 9 true (.mov 0 (.s 10)), cg 12 9 true (.ld false 1 (.s 11)), cg 13 9 true (.mov 0 (.s 1)), cg 14 9 true (.ld false 1 (.s 13)), ch 15 9 true (.bin .eql .any (.s 12) (.s 14)), cb 16 (.pick (.s 9) (.s 15) (.c (kb false))), cb 17 (.mv (.s 16)), cg 18 17 true (.mov 3 (.s 3)), cg 19 17 true (.ld true 8 (.s 18)), cg 20 17 true (.ld true 8 (.s 2)), ch 21 17 true (.call none (.c (kf 33)) [(.s 19), (.s 20)]), cb 22 (.pick (.s 17) (.s 21) (.c (kb false))), cb 4 (.tk (.s 22))] [3, 4]) (.ret))
theorem fun32 : Fun Tryz.prog cfg 32 23 cd32 [.s 4] := ⟨rfl, Tryz.f32, _, Tryz.func32, rfl, rfl, by kernel_rfl, by kernel_rfl⟩
@[go_sem] theorem ok32 : calleeOK Tryz.prog 32 = true := by kernel_rfl
@[go_sem] theorem ex32 : (cfg.ext 32).isSome = false := rfl
def cd10 : Cd := .seq (R [c0 4 (.new false (.s 1)), c0 5 (.new false (.s 2)), c0 6 (.new false (.c (.agg [ki .i64 0, kn 3])))] [0, 4, 5, 6, 11]) (.seq (R [c0 12 (.mkf (.func 32) 0 [(.s 4), (.s 5)]), c0 7 (.tk (.s 12))] [0, 4, 5, 6, 7, 11]) (.seq (R [c0 8 (.tk (.c (kn 3)))] [0, 4, 5, 6, 7, 8, 11]) (.seq (R [c0 9 (.tk (.c (ki .i64 0)))] [0, 4, 5, 6, 7, 8, 9, 11]) (.seq (.seq (R [c0 13 (.mv (.s 0)), c0 14 (.len 1 (.s 13)), c0 15 (.mv (.c (ki .i64 0)))] [4, 5, 6, 7, 8, 9, 11, 13, 14, 15]) (.block 0 (LP [4, 5, 6, 7, 8, 9, 11, 13, 14, 15] (.seq (R [c0 16 (.bin .lss .any (.s 15) (.s 14))] [4, 5, 6, 7, 8, 9, 11, 13, 14, 15, 16]) (.seq (.ite (.s 16) (.skip) (.exit 0)) (.seq (.block 1 (.seq (R [c0 17 (.ixp 13 (.s 13) (.s 15)), c0 18 (.ld true 13 (.s 17)), c0 11 (.new false (.c (.agg [ki .i64 0, ki .i64 0, ki .i64 0, ki .i64 0, ki .i64 0, ki .i64 0, ks [], ks [], ki .i64 0, ki .i64 0, ki .i64 0, ki .i64 0, kn 3]))), cn (.st 13 (.s 11) (.s 18))] [4, 5, 6, 7, 8, 9, 11, 13, 14, 15]) (.seq (R [c0 19 (.mv (.s 7)), c0 20 (.ld true 13 (.s 11)), cb 21 (.call none (.s 19) [(.s 20)])] [4, 5, 6, 7, 8, 9, 11, 13, 14, 15, 21]) (.ite (.s 21) (.seq (R [c0 22 (.tk (.s 8)), c0 23 (.mov 0 (.s 11)), c0 24 (.ld true 3 (.s 23)), c0 25 (.bsl 3 [(.s 24)]), c0 26 (.app 3 28 false (.s 22) (.s 25)), c0 8 (.tk (.s 26))] [4, 5, 6, 7, 8, 9, 11, 13, 14, 15]) (R [c0 27 (.mv (.s 9)), c0 28 (.mov 11 (.s 11)), c0 29 (.mov 0 (.s 28)), c0 30 (.ld false 1 (.s 29)), c0 31 (.mm true (.s 27) (.s 30)), c0 9 (.tk (.s 31))] [4, 5, 6, 7, 8, 9, 11, 13, 14, 15])) (.skip))))) (R [c0 32 (.bin .add .any (.s 15) (.c (ki .i64 1))), c0 15 (.mv (.s 32))] [4, 5, 6, 7, 8, 9, 11, 13, 14, 15]))))))) (.seq (R [c0 33 (.mv (.s 9)), c0 34 (.bin .add .any (.s 33) (.c (ki .i64 1))), c0 35 (.mv (.s 8)), c0 36 (.call none (.c (kf 34)) [(.s 35)]), c0 37 (.bld [ki .i64 0, kz 3] [(0, 1, (.s 34)), (1, 1, (.s 36))]), cn (.st 2 (.s 6) (.s 37))] [4, 5, 6, 11]) (.ret))))))
theorem fun10 : Fun Tryz.prog cfg 10 38 cd10 [.b 6 true 2] := ⟨rfl, Tryz.f10, _, Tryz.func10, rfl, rfl, by kernel_rfl, by kernel_rfl⟩
@[go_sem] theorem ok10 : calleeOK Tryz.prog 10 = true := by kernel_rfl
@[go_sem] theorem ex10 : (cfg.ext 10).isSome = false := rfl
def cd26 : Cd := .seq (R [c0 2 (.new false (.s 0)), c0 3 (.new false (.s 1)), c0 4 (.new false (.c (.agg [ki .i64 0, kn 3])))] [2, 3, 4]) (.seq (RD [cd (some 5) false none (.mov 0 (.s 2)) false false [2], cd (some 6) false none (.ld false 1 (.s 5)) false false [5], cd (some 7) false none (.mov 0 (.s 3)) false false [3], cd (some 8) false none (.ld false 1 (.s 7)) false false [7], cd (some 9) false none (.mm true (.s 6) (.s 8)) false false [6, 8], cd (some 10) false none (.mov 1 (.s 2)) false false [2], cd (some 11) false none (.ld false 5 (.s 10)) false false [10], cd (some 12) false none (.mov 1 (.s 3)) false false [3], cd (some 13) false none (.ld false 5 (.s 12)) false false [12], cd (some 14) false none (.call none (.c (kf 63)) [(.s 11), (.s 13)]) false false [11, 13], cd (some 15) false none (.bld [ki .i64 0, kz 3] [(0, 1, (.s 9)), (1, 1, (.s 14))]) false false [9, 14], cd none false none (.st 2 (.s 4) (.s 15)) false false [4, 15]] [2, 3, 4] []) (.ret))
theorem fun26 : Fun Tryz.prog cfg 26 16 cd26 [.b 4 true 2] := ⟨rfl, Tryz.f26, _, Tryz.func26, rfl, rfl, by kernel_rfl, by kernel_rfl⟩
@[go_sem] theorem ok26 : calleeOK Tryz.prog 26 = true := by kernel_rfl
@[go_sem] theorem ex26 : (cfg.ext 26).isSome = false := rfl
def cd66 : Cd := .seq (R [c0 2 (.new false (.s 0)), c0 4 (.new false (.c (.agg [ki .i64 0, kn 3])))] [1, 2, 4, 6]) (.seq (.seq (R [c0 7 (.mv (.s 1)), c0 8 (.len 1 (.s 7)), c0 9 (.mv (.c (ki .i64 0)))] [2, 4, 6, 7, 8, 9]) (.block 0 (LP [2, 4, 6, 7, 8, 9] (.seq (R [c0 10 (.bin .lss .any (.s 9) (.s 8))] [2, 4, 6, 7, 8, 9, 10]) (.seq (.ite (.s 10) (.skip) (.exit 0)) (.seq (.block 1 (.seq (R [c0 11 (.ixp 2 (.s 7) (.s 9)), c0 12 (.ld true 2 (.s 11)), c0 6 (.new false (.c (.agg [ki .i64 0, kn 3]))), cn (.st 2 (.s 6) (.s 12))] [2, 4, 6, 7, 8, 9]) (R [c0 13 (.ld true 2 (.s 2)), c0 14 (.ld true 2 (.s 6)), c0 15 (.call none (.c (kf 26)) [(.s 13), (.s 14)]), cn (.st 2 (.s 2) (.s 15))] [2, 4, 6, 7, 8, 9]))) (R [c0 16 (.bin .add .any (.s 9) (.c (ki .i64 1))), c0 9 (.mv (.s 16))] [2, 4, 6, 7, 8, 9]))))))) (.seq (R [c0 17 (.ld true 2 (.s 2)), cn (.st 2 (.s 4) (.s 17))] [2, 4, 6]) (.ret)))
theorem fun66 : Fun Tryz.prog cfg 66 18 cd66 [.b 4 true 2] := ⟨rfl, Tryz.f66, _, Tryz.func66, rfl, rfl, by kernel_rfl, by kernel_rfl⟩
@[go_sem] theorem ok66 : calleeOK Tryz.prog 66 = true := by kernel_rfl
@[go_sem] theorem ex66 : (cfg.ext 66).isSome = false := rfl
def cd30 : Cd := .seq (R [c0 2 (.new false (.c (.agg [ki .i64 0, kn 3])))] [0, 2]) (.seq (.seq (R [c0 3 (.mv (.s 0)), c0 4 (.len 1 (.s 3)), cb 5 (.bin .eql .any (.s 4) (.c (ki .i64 0)))] [0, 2, 5]) (.ite (.s 5) (.seq (R [c0 6 (.bld [ki .i64 0, kz 3] []), cn (.st 2 (.s 2) (.s 6))] [2]) (.ret)) (.skip))) (.seq (R [c0 7 (.mv (.s 0)), c0 8 (.ixp 2 (.s 7) (.c (ki .i64 0))), c0 9 (.mov 0 (.s 8)), c0 10 (.ld false 1 (.s 9)), c0 11 (.bld [ki .i64 0, kz 3] [(0, 1, (.s 10))]), c0 12 (.mv (.s 0)), c0 13 (.call none (.c (kf 66)) [(.s 11), (.s 12)]), cn (.st 2 (.s 2) (.s 13))] [2]) (.ret)))
theorem fun30 : Fun Tryz.prog cfg 30 14 cd30 [.b 2 true 2] := ⟨rfl, Tryz.f30, _, Tryz.func30, rfl, rfl, by kernel_rfl, by kernel_rfl⟩
@[go_sem] theorem ok30 : calleeOK Tryz.prog 30 = true := by kernel_rfl
@[go_sem] theorem ex30 : (cfg.ext 30).isSome = false := rfl
def cd27 : Cd := .seq (R [c0 2 (.new false (.s 0)), c0 3 (.new false (.s 1)), cb 4 (.tk (.c (kb false)))] [2, 3]) (.seq (R [c0 5 (.mov 0 (.s 2)), c0 6 (.ld false 1 (.s 5)), c0 7 (.mov 0 (.s 3)), c0 8 (.ld false 1 (.s 7)), cb 9 (.bin .eql .any (.s 6) (.s 8)), cb 10 (.mv (.s 9)), cg 11 10 true (.mov 1 (.s 2)), cg 12 10 true (.ld false 5 (.s 11)), cg 13 10 true (.mov 1 (.s 3)), cg 14 10 true (.ld false 5 (.s 13)), ch 15 10 true (.call none (.c (kf 64)) [(.s 12), (.s 14)]), cb 16 (.pick (.s 10) (.s 15) (.c (kb false))), cb 4 (.tk (.s 16))] [2, 3, 4]) (.ret))
theorem fun27 : Fun Tryz.prog cfg 27 17 cd27 [.s 4] := ⟨rfl, Tryz.f27, _, Tryz.func27, rfl, rfl, by kernel_rfl, by kernel_rfl⟩
@[go_sem] theorem ok27 : calleeOK Tryz.prog 27 = true := by kernel_rfl
@[go_sem] theorem ex27 : (cfg.ext 27).isSome = false := rfl
def cd28 : Cd := .seq (R [c0 2 (.new false (.s 0)), c0 3 (.new false (.s 1)), cb 4 (.tk (.c (kb false)))] [2, 3]) (.seq (R [c0 5 (.mov 11 (.s 3)), c0 6 (.mov 1 (.s 5)), c0 7 (.ld false 5 (.s 6)), c0 8 (.mov 0 (.s 2)), c0 9 (.ld true 3 (.s 8)), cb 10 (.call none (.c (kf 65)) [(.s 7), (.s 9)]), cb 11 (.mv (.s 10)), cg 12 11 false (.mov 11 (.s 2)), cg 13 11 false (.mov 1 (.s 12)), cg 14 11 false (.ld false 5 (.s 13)), cg 15 11 false (.mov 0 (.s 3)), cg 16 11 false (.ld true 3 (.s 15)), ch 17 11 false (.call none (.c (kf 65)) [(.s 14), (.s 16)]), cb 18 (.pick (.s 11) (.c (kb true)) (.s 17)), cb 4 (.tk (.s 18))] [2, 3, 4]) (.ret))
theorem fun28 : Fun Tryz.prog cfg 28 19 cd28 [.s 4] := ⟨rfl, Tryz.f28, _, Tryz.func28, rfl, rfl, by kernel_rfl, by kernel_rfl⟩
@[go_sem] theorem ok28 : calleeOK Tryz.prog 28 = true := by kernel_rfl
@[go_sem] theorem ex28 : (cfg.ext 28).isSome = false := rfl
def cd29 : Cd := .seq (R [cb 2 (.tk (.c (kb false)))] [0, 4]) (.seq (.seq (R [c0 5 (.mv (.s 0)), c0 6 (.len 1 (.s 5)), c0 7 (.mv (.c (ki .i64 0)))] [0, 4, 5, 6, 7]) (.block 0 (LP [0, 4, 5, 6, 7] (.seq (R [c0 8 (.bin .lss .any (.s 7) (.s 6))] [0, 4, 5, 6, 7, 8]) (.seq (.ite (.s 8) (.skip) (.exit 0)) (.seq (.block 1 (.seq (R [c0 9 (.ixp 2 (.s 5) (.s 7)), c0 10 (.ld true 2 (.s 9)), c0 4 (.new false (.c (.agg [ki .i64 0, kn 3]))), cn (.st 2 (.s 4) (.s 10))] [0, 4, 5, 6, 7]) (.seq (RD [cd (some 11) false none (.ld true 2 (.s 4)) false false [4], cd (some 12) false none (.mv (.s 0)) false false [0], cd (some 13) false none (.ixp 2 (.s 12) (.c (ki .i64 0))) false false [12], cd (some 14) false none (.ld true 2 (.s 13)) false false [13], cd (some 15) true none (.call none (.c (kf 27)) [(.s 11), (.s 14)]) false false [11, 14], cd (some 16) true none (.un .not (.s 15)) false false [15]] [0, 4, 5, 6, 7, 16] []) (.ite (.s 16) (.seq (R [cb 2 (.tk (.c (kb false)))] [2, 4]) (.ret)) (.skip))))) (R [c0 17 (.bin .add .any (.s 7) (.c (ki .i64 1))), c0 7 (.mv (.s 17))] [0, 4, 5, 6, 7]))))))) (.seq (R [c0 18 (.mv (.s 0)), c0 19 (.len 1 (.s 18)), cb 20 (.bin .gtr .any (.s 19) (.c (ki .i64 0))), cb 2 (.tk (.s 20))] [2, 4]) (.ret)))
theorem fun29 : Fun Tryz.prog cfg 29 21 cd29 [.s 2] := ⟨rfl, Tryz.f29, _, Tryz.func29, rfl, rfl, by kernel_rfl, by kernel_rfl⟩
@[go_sem] theorem ok29 : calleeOK Tryz.prog 29 = true := by kernel_rfl
@[go_sem] theorem ex29 : (cfg.ext 29).isSome = false := rfl
variable {h : DHeap}
abbrev attL (a : Att) : List DV := [vi a.seq, .list false 3 (idr a.deps)]
abbrev attD (a : Att) : DV := .agg [vi a.seq, .list false 3 (idr a.deps)]
def ats (l : List Att) : List (List DV) := l.map fun a => [vi a.seq, .list false 3 (idr a.deps)]
@[go_sem] theorem ats_len (l : List Att) : (ats l).length = l.length := by simp [ats]
@[go_sem] theorem ats_snoc (l : List Att) (a : Att) : ats l ++ [[.sc (.int .i64 a.seq), .list false 3 (idr a.deps)]] = ats (l ++ [a]) := by simp [ats]
@[go_sem high] theorem idxP_ats (l : List Att) (i : Int) (N : List DV → Prop) : IdxP (ats l) i N = IdxP l i fun a => N [vi a.seq, .list false 3 (idr a.deps)] := idxP_map
theorem free_ats : ∀ l : List Att, heapFree.alls (ats l) = true
  | [] => rfl
  | s :: l => by
    have := free_ats l
    simp only [ats] at this
    simp only [ats, List.map_cons, heapFree.alls, heapFree.all, heapFree, this, free_idr, Bool.and_self]
abbrev knoL (x : Kno) : List DV := [vi x.id.e, vi x.id.n, vi x.id.k, vi x.cmd.client, vi x.cmd.seq, vi x.cmd.op, vs x.cmd.path, vs x.cmd.value, vi x.cmd.version, vi x.cmd.a, vi x.cmd.b, vi x.att.seq, .list false 3 (idr x.att.deps)]
abbrev knoD (x : Kno) : DV := .agg [vi x.id.e, vi x.id.n, vi x.id.k, vi x.cmd.client, vi x.cmd.seq, vi x.cmd.op, vs x.cmd.path, vs x.cmd.value, vi x.cmd.version, vi x.cmd.a, vi x.cmd.b, vi x.att.seq, .list false 3 (idr x.att.deps)]
def kns (l : List Kno) : List (List DV) := l.map fun x => [vi x.id.e, vi x.id.n, vi x.id.k, vi x.cmd.client, vi x.cmd.seq, vi x.cmd.op, vs x.cmd.path, vs x.cmd.value, vi x.cmd.version, vi x.cmd.a, vi x.cmd.b, vi x.att.seq, .list false 3 (idr x.att.deps)]
@[go_sem] theorem kns_len (l : List Kno) : (kns l).length = l.length := by simp [kns]
@[go_sem high] theorem idxP_kns (l : List Kno) (i : Int) (N : List DV → Prop) : IdxP (kns l) i N = IdxP l i fun x => N [vi x.id.e, vi x.id.n, vi x.id.k, vi x.cmd.client, vi x.cmd.seq, vi x.cmd.op, vs x.cmd.path, vs x.cmd.value, vi x.cmd.version, vi x.cmd.a, vi x.cmd.b, vi x.att.seq, .list false 3 (idr x.att.deps)] := idxP_map
theorem free_kns : ∀ l : List Kno, heapFree.alls (kns l) = true
  | [] => rfl
  | s :: l => by
    have := free_kns l
    simp only [kns] at this
    simp only [kns, List.map_cons, heapFree.alls, heapFree.all, heapFree, this, free_idr, Bool.and_self]
theorem mmI_max (a b : Int) : mmI true a b = max a b := by unfold mmI; simp only [if_true]; split <;> omega
def depOK (id x : Id) : Bool := decide (x ≠ id) && decide (x.e = id.e) && validI x
theorem validA_eq (id : Id) (a : Att) : validA id a = (a.deps.all (depOK id) && (decide (0 ≤ a.seq) && decide (a.seq ≤ 1099511627776)) && decide (a.deps.length ≤ 1024) && rightI a.deps) := rfl
set_option maxHeartbeats 1000000 in
theorem validA_lim (id : Id) (a : Att) (hl : a.deps.length ≤ 1099511627776) : lim Tryz.prog cfg 13 [.agg [vi id.e, vi id.n, vi id.k], attD a] h = some (vb (validA id a), h) := by
  refine lim_funp fun13 rfl (by simp) (by simp [heapFree, heapFree.all, free_idr]) rfl ?_
  delta cd13
  rw [validA_eq]
  obtain ⟨seq, deps⟩ := a
  dsimp only at hl ⊢
  simp -implicitDefEqProofs -dsimp only [go_sem]
  refine wp_for (σ := Nat × DV) (fun k => [(2, .box [vi id.e, vi id.n, vi id.k]), (3, .box [vi seq, .list false 3 (idr deps)]), (6, k.2), (8, .list false 3 (idr deps)), (9, vi (deps.length : Nat)), (10, vi (k.1 : Nat))]) (fun _ => []) (fun k => deps.length - k.1) (fun k => k.1 ≤ deps.length ∧ ∀ j (hj : j < deps.length), j < k.1 → depOK id deps[j] = true) (0, .junk) (by simp) rfl rfl ?_
  rintro ⟨k, y⟩ ⟨hk, hj⟩ N hN
  dsimp only at hk hj
  by_cases hlt : k < deps.length
  · have h1 : ((k : Int) < (deps.length : Int)) := by omega
    have e1 := validD_lim (h := []) deps[k]
    have go : depOK id deps[k] = true → ∀ (z : DV) a', keepA (some [2, 3, 6, 8, 9, 10]) a' = [(2, .box [vi id.e, vi id.n, vi id.k]), (3, .box [vi seq, .list false 3 (idr deps)]), (6, z), (8, .list false 3 (idr deps)), (9, vi (deps.length : Nat)), (10, vi ((k + 1 : Nat) : Int))] → N a' [] := fun hd z a' ha => by
      refine hN (k + 1, z) a' (by dsimp only; omega) ⟨by dsimp only; omega, fun j hj1 hj2 => ?_⟩ ha
      by_cases e : j = k
      · subst e; exact hd
      · exact hj j hj1 (by dsimp only at hj2; omega)
    have no : depOK id deps[k] = false → deps.all (depOK id) = false := fun hd => by
      rw [Bool.eq_false_iff]
      intro q
      rw [List.all_eq_true] at q
      rw [q _ (List.getElem_mem hlt)] at hd
      cases hd
    by_cases c1 : deps[k] = id
    · have hd : depOK id deps[k] = false := by simp [depOK, c1]
      simp -implicitDefEqProofs -dsimp only [go_sem, h1, hlt, eq_true c1, no hd]
      rfl
    · by_cases c2 : deps[k].e = id.e
      · cases c3 : validI deps[k] with
        | true =>
          rw [c3] at e1
          have hd : depOK id deps[k] = true := by simp [depOK, c1, c2, c3]
          simp -implicitDefEqProofs -dsimp only [go_sem, h1, hlt, eq_false c1, eq_true c2, e1]
          refine go hd (.box [vi deps[k].e, vi deps[k].n, vi deps[k].k]) _ ?_
          simp -implicitDefEqProofs -dsimp only [go_sem, wrap_succ (show k < 9223372036854775807 by omega)]
        | false =>
          rw [c3] at e1
          have hd : depOK id deps[k] = false := by simp [depOK, c3]
          simp -implicitDefEqProofs -dsimp only [go_sem, h1, hlt, eq_false c1, eq_true c2, e1, no hd]
          rfl
      · have hd : depOK id deps[k] = false := by simp [depOK, c2]
        simp -implicitDefEqProofs -dsimp only [go_sem, h1, hlt, eq_false c1, eq_false c2, no hd]
        rfl
  · have h1 : ¬ ((k : Int) < (deps.length : Int)) := by omega
    have hall : deps.all (depOK id) = true := by
      rw [List.all_eq_true]
      intro x hx
      obtain ⟨j, hj1, rfl⟩ := List.getElem_of_mem hx
      exact hj j hj1 (by omega)
    have e2 := rightD_lim (h := []) false deps hl
    rw [hall]
    by_cases c1 : 0 ≤ seq
    · by_cases c2 : seq ≤ 1099511627776
      · by_cases c3 : deps.length ≤ 1024
        · have c3' : (deps.length : Int) ≤ 1024 := by omega
          cases c4 : rightI deps <;> rw [c4] at e2 <;> simp -implicitDefEqProofs -dsimp only [go_sem, h1, c1, c2, c3, c3', e2] <;> simp [c1, c2, c3]
        · have c3' : ¬ (deps.length : Int) ≤ 1024 := by omega
          simp -implicitDefEqProofs -dsimp only [go_sem, h1, c1, c2, c3, c3', e2] <;> simp [c1, c2, c3]
      · simp -implicitDefEqProofs -dsimp only [go_sem, h1, c1, c2, e2] <;> simp [c1, c2]
    · simp -implicitDefEqProofs -dsimp only [go_sem, h1, c1, e2] <;> simp [c1]
theorem merge_lim (a b : Att) (hl : a.deps.length + b.deps.length ≤ 1048576) : lim Tryz.prog cfg 26 [attD a, attD b] h = some (attD (mergeP a b), h) := by
  refine lim_funp fun26 rfl (by simp) (by simp [heapFree, heapFree.all, free_idr]) (by simp [heapFree, heapFree.all, free_idr]) ?_
  delta cd26
  have e1 := unionD_lim (h := []) false false a.deps b.deps hl
  simp -implicitDefEqProofs -dsimp only [go_sem, wp_RD, e1, mmI_max]
  rfl
theorem fold_len (f : Att) (l : List Att) (k B : Nat) (h : ∀ a ∈ l, a.deps.length ≤ B) : ((l.take k).foldl mergeP f).deps.length ≤ f.deps.length + k * B := by
  induction k generalizing f l with
  | zero => simp
  | succ k ih =>
    cases l with
    | nil => simp
    | cons a l =>
      rw [List.take_succ_cons, List.foldl_cons]
      have h1 := ih (mergeP f a) l fun x hx => h x (List.mem_cons_of_mem _ hx)
      have h2 := merge_len f a
      have h3 := h a List.mem_cons_self
      rw [Nat.succ_mul]
      omega
theorem foldA_lim (own : Bool) (f : Att) (l : List Att) (hf : f.deps.length ≤ 1000) (hl : l.length ≤ 500) (hs : ∀ a ∈ l, a.deps.length ≤ 1000) : lim Tryz.prog cfg 66 [attD f, .list own 2 (ats l)] h = some (attD (l.foldl mergeP f), h) := by
  refine lim_funp fun66 rfl (by simp) (by simp [heapFree, heapFree.all, free_idr, free_ats]) (by simp [heapFree, heapFree.all, free_idr]) ?_
  delta cd66
  simp -implicitDefEqProofs -dsimp only [go_sem]
  refine wp_for (σ := Nat × DV) (fun k => [(2, .box (attL ((l.take k.1).foldl mergeP f))), (4, .box [vi 0, .list false 3 []]), (6, k.2), (7, .list false 2 (ats l)), (8, vi (l.length : Nat)), (9, vi (k.1 : Nat))]) (fun _ => []) (fun k => l.length - k.1) (fun k => k.1 ≤ l.length) (0, .junk) (by simp) rfl rfl ?_
  rintro ⟨k, y⟩ hk N hN
  dsimp only at hk
  by_cases hlt : k < l.length
  · have h1 : ((k : Int) < (l.length : Int)) := by omega
    have e0 := fold_len f l k 1000 hs
    have e1 := merge_lim (h := []) ((l.take k).foldl mergeP f) l[k] (by have := hs _ (List.getElem_mem hlt); omega)
    have e2 : mergeP ((l.take k).foldl mergeP f) l[k] = (l.take (k + 1)).foldl mergeP f := by rw [List.take_succ_eq_append_getElem hlt, List.foldl_append]; rfl
    rw [e2] at e1
    simp -implicitDefEqProofs -dsimp only [go_sem, h1, hlt, e1]
    refine hN (k + 1, .box (attL l[k])) _ (by dsimp only; omega) (by dsimp only; omega) ?_
    simp -implicitDefEqProofs -dsimp only [go_sem, wrap_succ (show k < 9223372036854775807 by omega)]
  · have h1 : ¬ ((k : Int) < (l.length : Int)) := by omega
    have hkl : l.take k = l := List.take_of_length_le (by omega)
    rw [hkl]
    simp -implicitDefEqProofs -dsimp only [go_sem, h1]
theorem allA_lim (own : Bool) (l : List Att) (hl : l.length ≤ 500) (hs : ∀ a ∈ l, a.deps.length ≤ 1000) : lim Tryz.prog cfg 30 [.list own 2 (ats l)] h = some (attD (allA l), h) := by
  refine lim_funp fun30 rfl (by simp) (by simp [heapFree, free_ats]) (by simp [heapFree, heapFree.all, free_idr]) ?_
  delta cd30
  by_cases hz : l.length = 0
  · have : l = [] := List.eq_nil_of_length_eq_zero hz
    subst this
    simp -implicitDefEqProofs -dsimp only [go_sem]
    rfl
  · have hlt : 0 < l.length := by omega
    have e1 : lim Tryz.prog cfg 66 [.agg [vi l[0].seq, .list false 3 []], .list false 2 (ats l)] [] = some (attD (l.foldl mergeP ⟨l[0].seq, []⟩), []) := foldA_lim (h := []) false ⟨l[0].seq, []⟩ l (by simp) hl hs
    have e2 : l.foldl mergeP ⟨l[0].seq, []⟩ = allA l := by
      cases l with
      | nil => simp at hlt
      | cons a l => rfl
    rw [e2] at e1
    have h0 : ¬ ((l.length : Nat) : Int) = 0 := by omega
    simp -implicitDefEqProofs -dsimp only [go_sem, h0, hlt, e1]
theorem sameA_lim (a b : Att) (h1 : a.deps.length ≤ 1048576) (h2 : b.deps.length ≤ 1048576) : lim Tryz.prog cfg 27 [attD a, attD b] h = some (vb (sameA a b), h) := by
  refine lim_funp fun27 rfl (by simp) (by simp [heapFree, heapFree.all, free_idr]) rfl ?_
  delta cd27
  have e1 := sameD_lim (h := []) false false a.deps b.deps h1 h2
  unfold sameA
  by_cases c1 : a.seq = b.seq
  · cases c2 : sameP a.deps b.deps <;> rw [c2] at e1 <;> simp -implicitDefEqProofs -dsimp only [go_sem, eq_true c1, e1]
  · simp -implicitDefEqProofs -dsimp only [go_sem, eq_false c1, e1]
    rfl
theorem linked_lim (a b : Kno) (h1 : a.att.deps.length ≤ 1048576) (h2 : b.att.deps.length ≤ 1048576) : lim Tryz.prog cfg 28 [knoD a, knoD b] h = some (vb (linkedP a b), h) := by
  refine lim_funp fun28 rfl (by simp) (by simp [heapFree, heapFree.all, free_idr]) rfl ?_
  delta cd28
  have e1 := hasD_lim (h := []) false b.att.deps a.id (by omega)
  have e2 := hasD_lim (h := []) false a.att.deps b.id (by omega)
  unfold linkedP
  cases c1 : decide (a.id ∈ b.att.deps) <;> cases c2 : decide (b.id ∈ a.att.deps) <;> rw [c1] at e1 <;> rw [c2] at e2 <;> simp -implicitDefEqProofs -dsimp only [go_sem, e1, e2]
theorem matters_lim (x : Kno) (id : Id) (c : Cmd) (hx : x.cmd.path.length ≤ 1099511627776) (hc : c.path.length ≤ 1099511627776) :
    lim Tryz.prog cfg 32 [knoD x, .eptr [vi id.e, vi id.n, vi id.k], .eptr (cmdL c)] h = some (vb (matters id c x), h) := by
  refine lim_funp fun32 rfl (by simp) (by simp [heapFree, heapFree.all, free_idr]) rfl ?_
  delta cd32
  have e1 := both_lim (h := []) x.cmd c hx hc
  unfold matters
  by_cases c1 : x.id = id
  · simp -implicitDefEqProofs -dsimp only [go_sem, eq_true c1, e1]
    simp [c1]
  · by_cases c2 : x.id.e = id.e
    · cases c3 : bothB x.cmd c <;> rw [c3] at e1 <;> simp -implicitDefEqProofs -dsimp only [go_sem, eq_false c1, eq_true c2, e1] <;> simp [c1, c2]
    · simp -implicitDefEqProofs -dsimp only [go_sem, eq_false c1, eq_false c2, e1]
      simp [c2]
theorem agree_iff (l : List Att) (hl : 0 < l.length) : (∀ j (hj : j < l.length), sameA l[j] l[0] = true) ↔ ∀ a ∈ l, sameA a l[0] = true :=
  ⟨fun h a ha => by obtain ⟨j, hj, rfl⟩ := List.getElem_of_mem ha; exact h j hj, fun h j hj => h _ (List.getElem_mem hj)⟩
/-- Are all the same? -/
def agreeP (l : List Att) : Bool := match l with
  | [] => false
  | a :: l => (a :: l).all fun b => sameA b a
theorem agreeP_at (l : List Att) (hl : 0 < l.length) : agreeP l = l.all fun b => sameA b l[0] := by
  cases l with
  | nil => simp at hl
  | cons a l => rfl
theorem agree_lim (own : Bool) (l : List Att) (hl : l.length ≤ 1000000) (hs : ∀ a ∈ l, a.deps.length ≤ 1048576) : lim Tryz.prog cfg 29 [.list own 2 (ats l)] h = some (vb (agreeP l), h) := by
  refine lim_funp fun29 rfl (by simp) (by simp [heapFree, free_ats]) rfl ?_
  delta cd29
  simp -implicitDefEqProofs -dsimp only [go_sem]
  refine wp_for (σ := Nat × DV) (fun k => [(0, .list false 2 (ats l)), (4, k.2), (5, .list false 2 (ats l)), (6, vi (l.length : Nat)), (7, vi (k.1 : Nat))]) (fun _ => []) (fun k => l.length - k.1) (fun k => k.1 ≤ l.length ∧ ∀ j (hj : j < l.length), j < k.1 → sameA l[j] (l[0]'(by omega)) = true) (0, .junk) (by simp) rfl rfl ?_
  rintro ⟨k, y⟩ ⟨hk, hj⟩ N hN
  dsimp only at hk hj
  by_cases hlt : k < l.length
  · have h0 : 0 < l.length := by omega
    have h1 : ((k : Int) < (l.length : Int)) := by omega
    have e1 := sameA_lim (h := []) l[k] l[0] (hs _ (List.getElem_mem hlt)) (hs _ (List.getElem_mem h0))
    cases c1 : sameA l[k] l[0] with
    | true =>
      rw [c1] at e1
      simp -implicitDefEqProofs -dsimp only [go_sem, wp_RD, h0, h1, hlt, e1]
      refine hN (k + 1, .box (attL l[k])) _ (by dsimp only; omega) ⟨by dsimp only; omega, fun j hj1 hj2 => ?_⟩ ?_
      · by_cases e : j = k
        · subst e; exact c1
        · exact hj j hj1 (by dsimp only at hj2; omega)
      · simp -implicitDefEqProofs -dsimp only [go_sem, wrap_succ (show k < 9223372036854775807 by omega)]
    | false =>
      rw [c1] at e1
      have hr : agreeP l = false := by
        rw [agreeP_at l h0, Bool.eq_false_iff]
        intro q
        rw [List.all_eq_true] at q
        rw [q _ (List.getElem_mem hlt)] at c1
        cases c1
      rw [hr]
      simp -implicitDefEqProofs -dsimp only [go_sem, wp_RD, h0, h1, hlt, e1]
  · have h1 : ¬ ((k : Int) < (l.length : Int)) := by omega
    by_cases h0 : 0 < l.length
    · have hr : agreeP l = true := by
        rw [agreeP_at l h0, List.all_eq_true]
        exact (agree_iff l h0).1 fun j hj1 => hj j hj1 (by omega)
      have h2 : (0 : Int) < (l.length : Int) := by omega
      rw [hr]
      simp -implicitDefEqProofs -dsimp only [go_sem, h1, h2]
    · have hr : agreeP l = false := by
        cases l with
        | nil => rfl
        | cons a l => simp at h0
      have h2 : ¬ (0 : Int) < (l.length : Int) := by omega
      rw [hr]
      simp -implicitDefEqProofs -dsimp only [go_sem, h1, h2]
/-- How far 'Local' is. -/
def locN (l : List Kno) (id : Id) (c : Cmd) : Int := (l.filter (matters id c)).foldl (fun n x => max n x.att.seq) 0
def locD (l : List Kno) (id : Id) (c : Cmd) : List Id := (l.filter (matters id c)).map (·.id)
theorem local_eq (l : List Kno) (id : Id) (c : Cmd) : localP l id c = ⟨locN l id c + 1, cleanP (locD l id c)⟩ := rfl
theorem loc_snoc (l : List Kno) (x : Kno) (id : Id) (c : Cmd) : locN (l ++ [x]) id c = (if matters id c x then max (locN l id c) x.att.seq else locN l id c) ∧ locD (l ++ [x]) id c = (if matters id c x then locD l id c ++ [x.id] else locD l id c) := by
  unfold locN locD
  rw [List.filter_append]
  cases hm : matters id c x <;> simp [hm]
theorem locD_len (l : List Kno) (id : Id) (c : Cmd) : (locD l id c).length ≤ l.length := by
  unfold locD; rw [List.length_map]; exact List.length_filter_le ..
theorem locN_le (l : List Kno) (id : Id) (c : Cmd) (B : Int) (hB : 0 ≤ B) (h : ∀ x ∈ l, x.att.seq ≤ B) : locN l id c ≤ B := foldl_max_le _ 0 B hB fun x hx => h x (List.mem_filter.1 hx).1
theorem locN_ge (l : List Kno) (id : Id) (c : Cmd) : 0 ≤ locN l id c := (foldl_max_ge _ 0).1
set_option maxHeartbeats 1000000 in
theorem local_lim (own : Bool) (l : List Kno) (id : Id) (c : Cmd) (hl : l.length ≤ 100000) (hs : ∀ x ∈ l, x.cmd.path.length ≤ 1099511627776 ∧ x.att.seq ≤ 9223372036854775806) (hc : c.path.length ≤ 1099511627776) :
    lim Tryz.prog cfg 10 [.list own 13 (kns l), .agg [vi id.e, vi id.n, vi id.k], cmdD c] h = some (attD (localP l id c), h) := by
  refine lim_funp fun10 rfl (by simp) (by simp [heapFree, heapFree.all, free_kns]) (by simp [heapFree, heapFree.all, free_idr]) ?_
  delta cd10
  rw [local_eq]
  simp -implicitDefEqProofs -dsimp only [go_sem]
  refine wp_for (σ := Nat × DV) (fun k => [(4, .eptr [vi id.e, vi id.n, vi id.k]), (5, .eptr (cmdL c)), (6, .box [vi 0, .list false 3 []]), (7, .fn (.func 32) [] [.eptr [vi id.e, vi id.n, vi id.k], .eptr (cmdL c)]), (8, .list true 3 (idr (locD (l.take k.1) id c))), (9, vi (locN (l.take k.1) id c)), (11, k.2), (13, .list false 13 (kns l)), (14, vi (l.length : Nat)), (15, vi (k.1 : Nat))]) (fun _ => []) (fun k => l.length - k.1) (fun k => k.1 ≤ l.length) (0, .junk) (by simp) rfl rfl ?_
  rintro ⟨k, y⟩ hk N hN
  dsimp only at hk
  by_cases hlt : k < l.length
  · have h1 : ((k : Int) < (l.length : Int)) := by omega
    have e1 := matters_lim (h := []) l[k] id c (hs _ (List.getElem_mem hlt)).1 hc
    obtain ⟨s1, s2⟩ := loc_snoc (l.take k) l[k] id c
    rw [← List.take_succ_eq_append_getElem hlt] at s1 s2
    have hlen : (locD (l.take k) id c).length ≤ 100000 := by have := locD_len (l.take k) id c; rw [List.length_take] at this; omega
    have hm : ((locD (l.take k) id c).length + 1) * 28 ≤ maxLenD := by unfold maxLenD; omega
    cases c1 : matters id c l[k] with
    | true =>
      rw [c1] at e1 s1 s2
      simp only [if_true] at s1 s2
      simp -implicitDefEqProofs -dsimp only [go_sem, h1, hlt, e1, hm, mmI_max]
      rw [← s1, ← s2]
      refine hN (k + 1, .box (knoL l[k])) _ (by dsimp only; omega) (by dsimp only; omega) ?_
      simp -implicitDefEqProofs -dsimp only [go_sem, wrap_succ (show k < 9223372036854775807 by omega)]
    | false =>
      rw [c1] at e1 s1 s2
      simp only [Bool.false_eq_true, if_false] at s1 s2
      simp -implicitDefEqProofs -dsimp only [go_sem, h1, hlt, e1]
      rw [← s1, ← s2]
      refine hN (k + 1, .box (knoL l[k])) _ (by dsimp only; omega) (by dsimp only; omega) ?_
      simp -implicitDefEqProofs -dsimp only [go_sem, wrap_succ (show k < 9223372036854775807 by omega)]
  · have h1 : ¬ ((k : Int) < (l.length : Int)) := by omega
    have hkl : l.take k = l := List.take_of_length_le (by omega)
    rw [hkl]
    have g1 := locN_ge l id c
    have g2 := locN_le l id c 9223372036854775806 (by omega) fun x hx => (hs x hx).2
    have g3 : IntKind.wrap .i64 (locN l id c + 1) = locN l id c + 1 := wrap64 (by omega) (by omega)
    have e1 := cleanD_lim (h := []) false (locD l id c) (by have := locD_len l id c; omega)
    simp -implicitDefEqProofs -dsimp only [go_sem, h1, g3, e1]
end Go.DS

/-
  Walks: the reference's functions of paths.
-/
namespace Go.DS
open Go Go.Proofs
set_option maxRecDepth 100000
set_option linter.unusedVariables false
set_option linter.unusedSimpArgs false
def cd159 : Cd := .seq (R [cb 2 (.tk (.c (kb false)))] [0]) (.seq (.seq (R [c0 3 (.tk (.c (ki .i64 0)))] [0, 3]) (.block 0 (LP [0, 3] (.seq (.seq (R [c0 5 (.mv (.s 3)), c0 6 (.mv (.s 0)), c0 7 (.len 0 (.s 6)), cb 8 (.bin .lss .any (.s 5) (.s 7))] [0, 3, 8]) (.ite (.s 8) (.skip) (.exit 0))) (.seq (.block 1 (.seq (R [c0 11 (.mv (.s 0)), c0 12 (.mv (.s 3)), c0 13 (.ixs (.s 11) (.s 12)), c0 4 (.tk (.s 13))] [0, 3, 4]) (.seq (R (c0 14 (.mv (.s 4)) :: cb 15 (.bin .geq .any (.s 14) (.c (ki .u8 97))) :: cb 16 (.mv (.s 15)) :: cg 17 16 true (.mv (.s 4)) :: ch 18 16 true (.bin .leq .any (.s 17) (.c (ki .u8 122))) :: cb 19 (.pick (.s 16) (.s 18) (.c (kb false))) :: cb 20 (.mv (.s 19)) :: cg 21 20 false (.mv (.s 4)) :: ch 22 20 false (.bin .geq .any (.s 21) (.c (ki .u8 48))) :: ch 23 20 false (.mv (.s 22)) :: cg 24 23 true (.mv (.s 4)) :: ch 25 23 true (.bin .leq .any (.s 24) (.c (ki .u8 57))) :: ch 26 20 false (.pick (.s 23) (.s 25) (.c (kb false))) :: cb 27 (.pick (.s 20) (.c (kb true)) (.s 26)) :: cb 28 (.mv (.s 27)) :: cg 29 28 false (.mv (.s 4)) :: ch 30 28 false (.bin .eql .any (.s 29) (.c (ki .u8 45))) :: cb 31 (.pick (.s 28) (.c (kb true)) (.s 30)) :: cb 32 (.mv (.s 31)) :: cg 33 32 false (.mv (.s 4)) :: ch 34 32 false (.bin .eql .any (.s 33) (.c (ki .u8 95))) :: cb 35 (.pick (.s 32) (.c (kb true)) (.s 34)) :: cb 36 (.un .not (.s 35)) :: []) [0, 3, 36]) (.ite (.s 36) (.seq (R [cb 2 (.tk (.c (kb false)))] [2]) (.ret)) (.skip))))) (R [c0 9 (.mv (.s 3)), c0 10 (.bin .add .any (.s 9) (.c (ki .i64 1))), c0 3 (.tk (.s 10))] [0, 3])))))) (.seq (R [c0 37 (.mv (.s 0)), c0 38 (.len 0 (.s 37)), cb 39 (.bin .geq .any (.s 38) (.c (ki .i64 1))), cb 40 (.mv (.s 39)), cg 41 40 true (.mv (.s 0)), cg 42 40 true (.len 0 (.s 41)), ch 43 40 true (.bin .leq .any (.s 42) (.c (ki .i64 16))), cb 44 (.pick (.s 40) (.s 43) (.c (kb false))), cb 2 (.tk (.s 44))] [2]) (.ret)))
theorem fun159 : Fun Tryz.prog cfg 159 45 cd159 [.s 2] := ⟨rfl, Tryz.f159, _, Tryz.func159, rfl, rfl, by kernel_rfl, by kernel_rfl⟩
@[go_sem] theorem ok159 : calleeOK Tryz.prog 159 = true := by kernel_rfl
@[go_sem] theorem ex159 : (cfg.ext 159).isSome = false := rfl
def cd139 : Cd := .seq (R [c0 2 (.tk (.c (ks []))), c0 3 (.tk (.c (ki .i64 0)))] [0]) (.seq (.seq (R [c0 6 (.mv (.s 0)), c0 7 (.len 1 (.s 6)), cb 8 (.bin .gtr .any (.s 7) (.c (ki .i64 8)))] [0, 8]) (.ite (.s 8) (.seq (R [c0 2 (.tk (.c (ks []))), c0 3 (.tk (.c (ki .i64 1)))] [2, 3]) (.ret)) (.skip))) (.seq (R [c0 4 (.tk (.c (ks [])))] [0, 4]) (.seq (.seq (R [c0 5 (.tk (.c (ki .i64 0)))] [0, 4, 5]) (.block 0 (LP [0, 4, 5] (.seq (.seq (R [c0 9 (.mv (.s 5)), c0 10 (.mv (.s 0)), c0 11 (.len 1 (.s 10)), cb 12 (.bin .lss .any (.s 9) (.s 11))] [0, 4, 5, 12]) (.ite (.s 12) (.skip) (.exit 0))) (.seq (.block 1 (.seq (.seq (R [c0 15 (.mv (.s 0)), c0 16 (.mv (.s 5)), c0 17 (.ixp 1 (.s 15) (.s 16)), c0 18 (.ld false 1 (.s 17)), cb 19 (.call none (.c (kf 159)) [(.s 18)]), cb 20 (.un .not (.s 19))] [0, 4, 5, 20]) (.ite (.s 20) (.seq (R [c0 2 (.tk (.c (ks []))), c0 3 (.tk (.c (ki .i64 1)))] [2, 3]) (.ret)) (.skip))) (R [c0 21 (.mv (.s 4)), c0 22 (.bin .add .any (.s 21) (.c (ks [47]))), c0 23 (.mv (.s 0)), c0 24 (.mv (.s 5)), c0 25 (.ixp 1 (.s 23) (.s 24)), c0 26 (.ld false 1 (.s 25)), c0 27 (.bin .add .any (.s 22) (.s 26)), c0 4 (.tk (.s 27))] [0, 4, 5]))) (R [c0 13 (.mv (.s 5)), c0 14 (.bin .add .any (.s 13) (.c (ki .i64 1))), c0 5 (.tk (.s 14))] [0, 4, 5])))))) (.seq (.seq (R [c0 28 (.mv (.s 4)), cb 29 (.bin .eql .any (.s 28) (.c (ks [])))] [4, 29]) (.ite (.s 29) (R [c0 4 (.tk (.c (ks [47])))] [4]) (.skip))) (.seq (R [c0 30 (.mv (.s 4)), c0 2 (.tk (.s 30)), c0 3 (.tk (.c (ki .i64 0)))] [2, 3]) (.ret))))))
theorem fun139 : Fun Tryz.prog cfg 139 31 cd139 [.s 2, .s 3] := ⟨rfl, Tryz.f139, _, Tryz.func139, rfl, rfl, by kernel_rfl, by kernel_rfl⟩
@[go_sem] theorem ok139 : calleeOK Tryz.prog 139 = true := by kernel_rfl
@[go_sem] theorem ex139 : (cfg.ext 139).isSome = false := rfl
def cd140 : Cd := .seq (R [c0 2 (.tk (.c (kn 1)))] [0]) (.seq (R [c0 3 (.tk (.c (kn 1)))] [0, 3]) (.seq (R [c0 4 (.tk (.c (ks [])))] [0, 3, 4]) (.seq (.seq (R [c0 5 (.tk (.c (ki .i64 1)))] [0, 3, 4, 5]) (.block 0 (LP [0, 3, 4, 5] (.seq (.seq (R [c0 6 (.mv (.s 5)), c0 7 (.mv (.s 0)), c0 8 (.len 0 (.s 7)), cb 9 (.bin .lss .any (.s 6) (.s 8))] [0, 3, 4, 5, 9]) (.ite (.s 9) (.skip) (.exit 0))) (.seq (.block 1 (.seq (R [c0 12 (.mv (.s 0)), c0 13 (.mv (.s 5)), c0 14 (.ixs (.s 12) (.s 13)), cb 15 (.bin .eql .any (.s 14) (.c (ki .u8 47)))] [0, 3, 4, 5, 15]) (.ite (.s 15) (.seq (R [c0 16 (.tk (.s 3)), c0 17 (.mv (.s 4)), c0 18 (.bsl 1 [(.s 17)]), c0 19 (.app 1 18 true (.s 16) (.s 18)), c0 3 (.tk (.s 19))] [0, 3, 5]) (R [c0 4 (.tk (.c (ks [])))] [0, 3, 4, 5])) (R [c0 20 (.mv (.s 4)), c0 21 (.mv (.s 0)), c0 22 (.mv (.s 5)), c0 23 (.mv (.s 5)), c0 24 (.bin .add .any (.s 23) (.c (ki .i64 1))), c0 25 (.ss (.s 21) (some (.s 22)) (some (.s 24))), c0 26 (.bin .add .any (.s 20) (.s 25)), c0 4 (.tk (.s 26))] [0, 3, 4, 5])))) (R [c0 10 (.mv (.s 5)), c0 11 (.bin .add .any (.s 10) (.c (ki .i64 1))), c0 5 (.tk (.s 11))] [0, 3, 4, 5])))))) (.seq (.seq (R [c0 27 (.mv (.s 0)), cb 28 (.bin .neq .any (.s 27) (.c (ks [47])))] [3, 4, 28]) (.ite (.s 28) (R [c0 29 (.tk (.s 3)), c0 30 (.mv (.s 4)), c0 31 (.bsl 1 [(.s 30)]), c0 32 (.app 1 18 true (.s 29) (.s 31)), c0 3 (.tk (.s 32))] [3]) (.skip))) (.seq (R [c0 33 (.tk (.s 3)), c0 2 (.tk (.s 33))] [2]) (.ret))))))
theorem fun140 : Fun Tryz.prog cfg 140 34 cd140 [.s 2] := ⟨rfl, Tryz.f140, _, Tryz.func140, rfl, rfl, by kernel_rfl, by kernel_rfl⟩
@[go_sem] theorem ok140 : calleeOK Tryz.prog 140 = true := by kernel_rfl
@[go_sem] theorem ex140 : (cfg.ext 140).isSome = false := rfl
def cd127 : Cd := .seq (R [cb 2 (.tk (.c (kb false)))] [0]) (.seq (.seq (R [c0 5 (.mv (.s 0)), c0 6 (.len 0 (.s 5)), cb 7 (.bin .lss .any (.s 6) (.c (ki .i64 1))), cb 8 (.mv (.s 7)), cg 9 8 false (.mv (.s 0)), cg 10 8 false (.len 0 (.s 9)), ch 11 8 false (.bin .gtr .any (.s 10) (.c (ki .i64 200))), cb 12 (.pick (.s 8) (.c (kb true)) (.s 11))] [0, 12]) (.ite (.s 12) (.seq (R [cb 2 (.tk (.c (kb false)))] [2]) (.ret)) (.skip))) (.seq (R [c0 14 (.mv (.s 0)), c0 15 (.call none (.c (kf 140)) [(.s 14)]), c0 16 (.call none (.c (kf 139)) [(.s 15)]), c0 13 (.mv (.s 16)), c0 17 (.ext (.s 13) 0), c0 18 (.ext (.s 13) 1), c0 3 (.tk (.s 17)), c0 4 (.tk (.s 18))] [0, 3, 4]) (.seq (R [c0 19 (.mv (.s 4)), cb 20 (.bin .eql .any (.s 19) (.c (ki .i64 0))), cb 21 (.mv (.s 20)), cg 22 21 true (.mv (.s 3)), cg 23 21 true (.mv (.s 0)), ch 24 21 true (.bin .eql .any (.s 22) (.s 23)), cb 25 (.pick (.s 21) (.s 24) (.c (kb false))), cb 2 (.tk (.s 25))] [2]) (.ret))))
theorem fun127 : Fun Tryz.prog cfg 127 26 cd127 [.s 2] := ⟨rfl, Tryz.f127, _, Tryz.func127, rfl, rfl, by kernel_rfl, by kernel_rfl⟩
@[go_sem] theorem ok127 : calleeOK Tryz.prog 127 = true := by kernel_rfl
@[go_sem] theorem ex127 : (cfg.ext 127).isSome = false := rfl
def cd141 : Cd := .seq (R [c0 2 (.tk (.c (ki .i64 0)))] [0]) (.seq (.seq (R [c0 3 (.mv (.s 0)), cb 4 (.call none (.c (kf 127)) [(.s 3)]), cb 5 (.un .not (.s 4))] [0, 5]) (.ite (.s 5) (.seq (R [c0 2 (.tk (.c (ki .i64 (-1))))] [2]) (.ret)) (.skip))) (.seq (R [c0 6 (.mv (.s 0)), c0 7 (.call none (.c (kf 140)) [(.s 6)]), c0 8 (.len 1 (.s 7)), c0 2 (.tk (.s 8))] [2]) (.ret)))
theorem fun141 : Fun Tryz.prog cfg 141 9 cd141 [.s 2] := ⟨rfl, Tryz.f141, _, Tryz.func141, rfl, rfl, by kernel_rfl, by kernel_rfl⟩
@[go_sem] theorem ok141 : calleeOK Tryz.prog 141 = true := by kernel_rfl
@[go_sem] theorem ex141 : (cfg.ext 141).isSome = false := rfl
def cd128 : Cd := .seq (R [c0 2 (.tk (.c (ks [])))] [0]) (.seq (.seq (R [c0 6 (.mv (.s 0)), c0 7 (.call none (.c (kf 141)) [(.s 6)]), cb 8 (.bin .lss .any (.s 7) (.c (ki .i64 1)))] [0, 8]) (.ite (.s 8) (.seq (R [c0 2 (.tk (.c (ks [])))] [2]) (.ret)) (.skip))) (.seq (R [c0 9 (.mv (.s 0)), c0 10 (.call none (.c (kf 140)) [(.s 9)]), c0 3 (.tk (.s 10))] [3]) (.seq (R [c0 12 (.mv (.s 3)), c0 13 (.mv (.s 3)), c0 14 (.len 1 (.s 13)), c0 15 (.bin .sub .any (.s 14) (.c (ki .i64 1))), c0 16 (.sl 1 (.s 12) none (some (.s 15))), c0 17 (.call none (.c (kf 139)) [(.s 16)]), c0 11 (.mv (.s 17)), c0 18 (.ext (.s 11) 0), c0 19 (.ext (.s 11) 1), c0 4 (.tk (.s 18)), c0 5 (.tk (.s 19))] [4]) (.seq (R [c0 20 (.mv (.s 4)), c0 2 (.tk (.s 20))] [2]) (.ret)))))
theorem fun128 : Fun Tryz.prog cfg 128 21 cd128 [.s 2] := ⟨rfl, Tryz.f128, _, Tryz.func128, rfl, rfl, by kernel_rfl, by kernel_rfl⟩
@[go_sem] theorem ok128 : calleeOK Tryz.prog 128 = true := by kernel_rfl
@[go_sem] theorem ex128 : (cfg.ext 128).isSome = false := rfl
variable {h : DHeap}
theorem rname_lim (s : Str) (hs : s.length ≤ 1099511627776) : lim Tryz.prog cfg 159 [vs s] h = some (vb (nameOK s), h) := by
  refine lim_funp fun159 rfl (by simp) rfl rfl ?_
  delta cd159
  simp -implicitDefEqProofs -dsimp only [go_sem]
  refine wp_for (σ := Nat) (fun k => [(0, vs s), (3, vi (k : Nat))]) (fun _ => []) (fun k => s.length - k) (fun k => k ≤ s.length ∧ (s.take k).all okc = true) 0 (by simp) rfl rfl ?_
  rintro k ⟨hk, hj⟩ N hN
  simp -implicitDefEqProofs -dsimp only [go_sem]
  refine ⟨fun h1 => ?_, fun h1 => ?_⟩
  · repeat' first | intro _ | refine And.intro ?_ ?_ | refine Exists.intro (by omega) ?_
    all_goals first
      | exact hN (k + 1) _ (by omega) ⟨by omega, take_all (by omega) hj ((okc_iff _).2 (by omega))⟩ (by simp -implicitDefEqProofs -dsimp only [go_sem, wrap_succ (show k < 9223372036854775807 by omega)])
      | (have := not_all (p := okc) (l := s) (k := k) (by omega) ((okc_not _).2 (by omega))
         simp [nameOK, this])
  · have : k = s.length := by omega
    subst this
    rw [List.take_length] at hj
    simp [nameOK, hj]
    grind

/-- Names, each with a slash ahead. -/
def flatP (l : List Str) : Str := l.flatMap fun s => 47 :: s
theorem flatP_join : ∀ (l : List Str), l ≠ [] → flatP l = 47 :: Lib.join l [47]
  | [], h => absurd rfl h
  | [a], _ => by simp [flatP, join_one]
  | a :: b :: l, _ => by
    have := flatP_join (b :: l) (by simp)
    rw [join_cons, ← this]
    simp [flatP]
theorem flatP_path {l : List Str} : (if flatP l = [] then [47] else flatP l) = pathOf l := by
  by_cases h : l = []
  · subst h; simp [flatP, pathOf, join_nil]
  · rw [flatP_join l h]; simp [pathOf]
theorem flatP_le (l : List Str) (h : ∀ s ∈ l, s.length ≤ 16) : (flatP l).length ≤ 17 * l.length := by
  induction l with
  | nil => simp [flatP]
  | cons a l ih =>
    have h1 := h a List.mem_cons_self
    have h2 := ih fun s hs => h s (List.mem_cons_of_mem _ hs)
    simp only [flatP, List.flatMap_cons, List.length_append, List.length_cons] at h2 ⊢
    omega
theorem rof_lim (own : Bool) (l : List Str) (hl : l.length ≤ 1048576) (hs : ∀ s ∈ l, s.length ≤ 1099511627776) : lim Tryz.prog cfg 139 [vts own l] h = some (ofV l, h) := by
  refine lim_funp fun139 rfl (by simp) (by simp [heapFree, free_ts]) (by unfold ofV; split <;> rfl) ?_
  delta cd139
  simp -implicitDefEqProofs -dsimp only [go_sem]
  refine ⟨fun h1 => ?_, fun h1 => ?_⟩
  · have : okL l = false := by simp [okL]; omega
    simp [ofV, this]
  refine wp_for (σ := Nat) (fun k => [(0, vts false l), (4, vs (flatP (l.take k))), (5, vi (k : Nat))]) (fun _ => []) (fun k => l.length - k) (fun k => k ≤ l.length ∧ ∀ s ∈ l.take k, nameOK s = true) 0 (by simp) rfl rfl ?_
  rintro k ⟨hk, hj⟩ N hN
  have hfl := flatP_le (l.take k) fun s hsk => nameOK_le (hj s hsk)
  rw [List.length_take] at hfl
  by_cases hkl : k < l.length
  · have hn := rname_lim (h := []) l[k] (hs _ (List.getElem_mem hkl))
    simp -implicitDefEqProofs -dsimp only [go_sem, hn]
    refine ⟨fun _ => ⟨hkl, fun h2 => ⟨?_, hkl, ?_, ?_⟩, fun h2 => ?_⟩, fun h2 => by omega⟩
    · omega
    · have := nameOK_le h2
      simp; omega
    · refine hN (k + 1) _ (by omega) ⟨by omega, ?_⟩ ?_
      · rw [List.take_succ_eq_append_getElem hkl]
        intro s hs'
        rcases List.mem_append.1 hs' with h3 | h3
        · exact hj s h3
        · simp at h3; subst h3; exact h2
      · have hf : flatP (l.take (k + 1)) = flatP (l.take k) ++ [47] ++ l[k] := by
          rw [List.take_succ_eq_append_getElem hkl]; simp only [flatP, List.flatMap_append, List.flatMap_cons, List.flatMap_nil, List.append_nil, List.append_assoc, List.cons_append, List.nil_append]
        simp -implicitDefEqProofs -dsimp only [go_sem, wrap_succ (show k < 9223372036854775807 by omega), hf]
    · have : okL l = false := by
        simp only [okL, Bool.and_eq_false_iff]
        right
        rw [← Bool.not_eq_true, List.all_eq_true]
        intro hall
        have := hall _ (List.getElem_mem hkl)
        rw [h2] at this
        cases this
      simp [ofV, this]
  · have hk' : k = l.length := by omega
    subst hk'
    rw [List.take_length] at hj
    have hok : okL l = true := by
      simp only [okL, Bool.and_eq_true, decide_eq_true_eq, List.all_eq_true]
      exact ⟨by omega, hj⟩
    have hp := flatP_path (l := l)
    simp -implicitDefEqProofs -dsimp only [go_sem]
    refine ⟨fun h2 => by omega, fun _ => ⟨fun h2 => ?_, fun h2 => ?_⟩⟩
    · rw [List.take_length] at h2
      rw [if_pos h2] at hp
      simp [ofV, hok, ← hp]
    · rw [List.take_length] at h2 ⊢
      rw [if_neg h2] at hp
      simp [ofV, hok, hp]

def glue (s : Str) : List Str → List Str
  | [] => []
  | x :: xs => (s ++ x) :: xs
theorem glue_nil (l : List Str) : glue [] l = l := by cases l <;> rfl
theorem sp_slash (r : Str) : sp (47 :: r) = [] :: sp r := by
  have h : aft (47 :: r) = 47 :: r := by simp [aft]
  rw [sp_cons h]; simp [seg]
theorem sp_char {c : UInt8} (hc : c ≠ 47) (r : Str) : sp (c :: r) = glue [c] (sp r) := by
  have h1 : aft (c :: r) = aft r := by simp [aft, hc]
  have h2 : seg (c :: r) = c :: seg r := by simp [seg, hc]
  rcases aft_cases r with h | ⟨r', h⟩
  · rw [sp_nil (h1.trans h), sp_nil h]; rfl
  · rw [sp_cons (h1.trans h), sp_cons h, h2]; rfl
theorem glue_glue (s : Str) (c : UInt8) (l : List Str) : glue s (glue [c] l) = glue (s ++ [c]) l := by
  cases l <;> simp [glue]
theorem cut_lim (p : Str) (hp : p.length ≤ 1048576) : lim Tryz.prog cfg 140 [vs p] h = some (vts true (cutP p), h) := by
  refine lim_funp fun140 rfl (by simp) rfl (by simp [heapFree, free_ts]) ?_
  delta cd140
  simp -implicitDefEqProofs -dsimp only [go_sem]
  refine wp_for (σ := Nat × List Str × Str) (fun x => [(0, vs p), (3, vts true x.2.1), (4, vs x.2.2), (5, vi (x.1 : Nat))]) (fun _ => []) (fun x => p.length - x.1)
    (fun x => 1 ≤ x.1 ∧ (x.1 ≤ p.length ∨ x.1 = 1) ∧ x.2.1.length ≤ x.1 ∧ x.2.2.length ≤ x.1 ∧ (x.1 = 1 → x.2.1 = []) ∧ sp (p.drop 1) = x.2.1 ++ glue x.2.2 (sp (p.drop x.1))) (1, [], []) (by simp [glue_nil]) rfl rfl ?_
  rintro ⟨i, l, s⟩ ⟨h1, h2, h3, h4, h7, h5⟩ N hN
  dsimp only at h1 h2 h3 h4 h5 h7
  by_cases hi : i < p.length
  · have hd : p.drop i = p[i] :: p.drop (i + 1) := List.drop_eq_getElem_cons hi
    have hx : (p.take (i + 1)).drop i = [p[i]] := by
      rw [List.take_succ_eq_append_getElem hi, List.drop_append_of_le_length (by simp; omega), List.drop_eq_nil_of_le (by simp; omega)]; rfl
    simp -implicitDefEqProofs -dsimp only [go_sem, wrap_succ (show i < 9223372036854775807 by omega), hx]
    refine ⟨fun _ => ⟨hi, fun h6 => ⟨?_, ?_⟩, fun h6 => ⟨by omega, by omega, by omega, by omega, by omega, ?_⟩⟩, fun h6 => by omega⟩
    · unfold maxLenD; omega
    · have h6' : p[i] = 47 := UInt8.toNat_inj.1 (by show p[i].toNat = 47; omega)
      refine hN (i + 1, l ++ [s], []) _ (by simp only; omega) ⟨by simp only; omega, by simp only; omega, by simp; omega, by simp, by simp only; omega, ?_⟩ (by simp -implicitDefEqProofs -dsimp only [go_sem])
      rw [h5, hd, h6', sp_slash, glue_nil]
      simp [glue]
    · have h6' : p[i] ≠ 47 := fun e => h6 (by rw [e]; rfl)
      refine hN (i + 1, l, s ++ [p[i]]) _ (by simp only; omega) ⟨by simp only; omega, by simp only; omega, by simp only; omega, by simp; omega, by simp only; omega, ?_⟩ (by simp -implicitDefEqProofs -dsimp only [go_sem])
      rw [h5, hd, sp_char h6', glue_glue]
  · have hd : p.drop i = [] := List.drop_eq_nil_of_le (by omega)
    have hsp : sp (p.drop 1) = l ++ [s] := by rw [h5, hd, sp_nil (by simp [aft])]; simp [glue]
    simp -implicitDefEqProofs -dsimp only [go_sem]
    refine ⟨fun h6 => by omega, fun _ => ⟨fun h6 => ?_, fun h6 => ⟨?_, ?_⟩⟩⟩
    · have : i = 1 := by rw [h6] at h2; simp at h2; omega
      simp [cutP, h6, h7 this]
    · unfold maxLenD; omega
    · simp only [cutP, if_neg h6, hsp]

theorem cut_sizes (p : Str) : (cutP p).length ≤ p.length + 1 ∧ ∀ s ∈ cutP p, s.length ≤ p.length := by
  unfold cutP
  split
  · simp
  · have key : ∀ (n : Nat) (r : Str), r.length ≤ n → (sp r).length ≤ r.length + 1 ∧ ∀ s ∈ sp r, s.length ≤ r.length := by
      intro n
      induction n with
      | zero => intro r hr; have : r = [] := List.length_eq_zero_iff.1 (by omega); subst this; rw [sp_nil (by simp [aft])]; simp
      | succ n ih =>
        intro r hr
        have hse : (seg r).length + (aft r).length = r.length := by rw [← List.length_append, seg_aft]
        rcases aft_cases r with h | ⟨r', h⟩
        · rw [sp_nil h]; simp
        · rw [sp_cons h]
          rw [h] at hse
          simp only [List.length_cons] at hse ⊢
          obtain ⟨i1, i2⟩ := ih r' (by omega)
          refine ⟨by omega, fun s hs => ?_⟩
          rcases List.mem_cons.1 hs with rfl | hs
          · omega
          · have := i2 s hs; omega
    obtain ⟨k1, k2⟩ := key _ (p.drop 1) (Nat.le_refl _)
    simp only [List.length_drop] at k1 k2
    exact ⟨by omega, fun s hs => by have := k2 s hs; omega⟩
theorem rvalid_lim (p : Str) (hp : p.length ≤ 1048575) : lim Tryz.prog cfg 127 [vs p] h = some (vb (parse p).isSome, h) := by
  refine lim_funp fun127 rfl (by simp) rfl rfl ?_
  delta cd127
  have hcs := cut_sizes p
  have hx := cut_lim (h := []) p (by omega)
  have hy := rof_lim (h := []) false (cutP p) (by omega) (fun s hs => by have := hcs.2 s hs; omega)
  have hv := valid_iff p
  by_cases hok : okL (cutP p) = true
  · have hy' : ofV (cutP p) = .tup [vs (pathOf (cutP p)), vi 0] := if_pos hok
    rw [hok, Bool.true_and] at hv
    have hpl := path_len hok
    simp -implicitDefEqProofs -dsimp only [go_sem, hx, hy, hy']
    rw [← hv]
    refine ⟨fun h1 => ?_, fun h1 => ⟨fun h2 => ?_, fun h2 => ⟨fun h3 => ?_, fun h3 => ?_⟩⟩⟩
    · rw [decide_eq_false]; intro e; rw [e] at hpl; omega
    · rw [decide_eq_false]; intro e; rw [e] at hpl; omega
    · rw [decide_eq_true h3]
    · rw [decide_eq_false h3]
  · have hy' : ofV (cutP p) = .tup [vs [], vi 1] := if_neg hok
    rw [Bool.not_eq_true] at hok
    rw [hok, Bool.false_and] at hv
    simp -implicitDefEqProofs -dsimp only [go_sem, hx, hy, hy', ← hv]
theorem rdepth_lim (p : Str) (hp : p.length ≤ 1048575) : lim Tryz.prog cfg 141 [vs p] h = some (vi (depthP p), h) := by
  refine lim_funp fun141 rfl (by simp) rfl rfl ?_
  delta cd141
  have hx := cut_lim (h := []) p (by omega)
  have hy := rvalid_lim (h := []) p hp
  simp -implicitDefEqProofs -dsimp only [go_sem, hx, hy]
  unfold depthP
  cases hq : parse p with
  | none => simp
  | some l => simp [cut_some hq]
theorem depth_names (p : Str) : depthP p < 1 ↔ namesP p = [] := by
  unfold depthP namesP
  cases parse p with
  | none => simp
  | some l => cases l <;> simp; omega
theorem names_cut {p : Str} (h : ¬ namesP p = []) : cutP p = namesP p := by
  unfold namesP at *
  cases hq : parse p with
  | none => rw [hq] at h; simp at h
  | some l => rw [cut_some hq]; rfl
theorem rparent_lim (p : Str) (hp : p.length ≤ 1048575) : lim Tryz.prog cfg 128 [vs p] h = some (vs (parentP p), h) := by
  refine lim_funp fun128 rfl (by simp) rfl rfl ?_
  delta cd128
  have hx := cut_lim (h := []) p (by omega)
  have hy := rdepth_lim (h := []) p hp
  have hd := depth_names p
  by_cases h0 : namesP p = []
  · simp -implicitDefEqProofs -dsimp only [go_sem, hx, hy]
    exact ⟨fun _ => by simp [parentP, h0], fun h1 => absurd (hd.2 h0) h1⟩
  · rw [names_cut h0] at hx
    have hpos := List.length_pos_iff.2 h0
    have hn := names_le p
    have hw := wrap_pred hpos (by omega)
    have hok := okL_sub (m := (namesP p).take ((namesP p).length - 1)) (names_ok p) (by simp) (fun s hs => List.mem_of_mem_take hs)
    have hj := rof_lim (h := []) false _ (join_ok hok).1 (fun s hs => by have := nameOK_le ((okL_names hok).2 s hs); omega)
    have hj' : ofV ((namesP p).take ((namesP p).length - 1)) = .tup [vs (pathOf ((namesP p).take ((namesP p).length - 1))), vi 0] := if_pos hok
    simp -implicitDefEqProofs -dsimp only [go_sem, hx, hy, hw, List.drop_zero, hj, hj']
    exact ⟨fun h1 => absurd (hd.1 h1) h0, fun _ => ⟨by omega, by omega, by simp [parentP, h0, List.dropLast_eq_take]⟩⟩
theorem cmpF_same {l m : List Str} (k : Nat) (hk : k ≤ l.length) (hj : l.take k = m.take k) : cmpF Lib.compareBytes l m = cmpF Lib.compareBytes (l.drop k) (m.drop k) := by
  induction k generalizing l m with
  | zero => simp
  | succ k ih =>
    match l, m, hk, hj with
    | [], _, hk, _ => simp at hk
    | a :: l, [], _, hj => simp at hj
    | a :: l, b :: m, hk, hj =>
      simp only [List.take_succ_cons, List.cons.injEq] at hj
      obtain ⟨rfl, hj⟩ := hj
      simp only [List.drop_succ_cons, cmpF]
      rw [if_neg (by simp [(cmpB_zero a a).2 rfl])]
      exact ih (by simpa using hk) hj
end Go.DS

/-
  Walks: the reference's functions of touch; the laws.
-/
namespace Go.DS
open Go Go.Proofs
set_option maxRecDepth 100000
set_option linter.unusedVariables false
set_option linter.unusedSimpArgs false
def cd101 : Cd := .seq (R [c0 1 (.new false (.s 0)), c0 2 (.mv (.c (kn 2))), c0 3 (.mv (.c (kn 2)))] [1, 6, 7, 8]) (.seq (R [c0 9 (.mov 3 (.s 1)), c0 10 (.ld false 1 (.s 9)), c0 4 (.tk (.s 10))] [1, 4, 6, 7, 8]) (.seq (.seq (R [c0 11 (.mv (.s 4)), cb 12 (.call none (.c (kf 127)) [(.s 11)]), cb 13 (.un .not (.s 12))] [1, 4, 6, 7, 8, 13]) (.ite (.s 13) (.seq (R [c0 2 (.mv (.c (kn 2))), c0 3 (.mv (.c (kn 2)))] [1, 2, 3, 6, 7, 8]) (.ret)) (.skip))) (.seq (R [c0 14 (.mv (.s 4)), c0 15 (.call none (.c (kf 128)) [(.s 14)]), c0 5 (.tk (.s 15))] [1, 4, 5, 6, 7, 8]) (.seq (R [c0 16 (.mv (.s 4)), c0 17 (.bld [ks [], ki .u8 0] [(0, 1, (.s 16)), (1, 1, (.c (ki .u8 101)))]), c0 6 (.new false (.c (.agg [ks [], ki .u8 0]))), cn (.st 2 (.s 6) (.s 17))] [1, 4, 5, 6, 7, 8]) (.seq (R [c0 18 (.mv (.s 4)), c0 19 (.bld [ks [], ki .u8 0] [(0, 1, (.s 18)), (1, 1, (.c (ki .u8 118)))]), c0 7 (.new false (.c (.agg [ks [], ki .u8 0]))), cn (.st 2 (.s 7) (.s 19))] [1, 4, 5, 6, 7, 8]) (.seq (R [c0 20 (.mv (.s 4)), c0 21 (.bld [ks [], ki .u8 0] [(0, 1, (.s 20)), (1, 1, (.c (ki .u8 107)))]), c0 8 (.new false (.c (.agg [ks [], ki .u8 0]))), cn (.st 2 (.s 8) (.s 21))] [1, 4, 5, 6, 7, 8]) (.seq (.seq (R [c0 22 (.mov 2 (.s 1)), c0 23 (.ld false 1 (.s 22))] [1, 4, 5, 6, 7, 8, 23]) (.block 0 (.seq (R [cb 25 (.bin .eql .any (.s 23) (.c (ki .i64 1))), cb 24 (.tk (.s 25))] [1, 4, 5, 6, 7, 8, 23, 24]) (.ite (.s 24) (.seq (.seq (R [c0 26 (.mv (.s 4)), cb 27 (.bin .eql .any (.s 26) (.c (ks [47])))] [1, 5, 6, 7, 8, 27]) (.ite (.s 27) (.seq (R [c0 28 (.ld true 2 (.s 6)), c0 29 (.bsl 2 [(.s 28)]), c0 2 (.mv (.s 29)), c0 3 (.mv (.c (kn 2)))] [1, 2, 3, 6, 7, 8]) (.ret)) (.skip))) (.seq (RD [cd (some 30) false none (.mv (.s 5)) false false [5], cd (some 31) false none (.bld [ks [], ki .u8 0] [(0, 1, (.s 30)), (1, 1, (.c (ki .u8 101)))]) false false [30], cd (some 32) false none (.ld true 2 (.s 6)) false false [6], cd (some 33) false none (.bsl 2 [(.s 31), (.s 32)]) false false [31, 32], cd (some 34) false none (.ld true 2 (.s 6)) false false [6], cd (some 35) false none (.ld true 2 (.s 7)) false false [7], cd (some 36) false none (.mv (.s 5)) false false [5], cd (some 37) false none (.bld [ks [], ki .u8 0] [(0, 1, (.s 36)), (1, 1, (.c (ki .u8 107)))]) false false [36], cd (some 38) false none (.bsl 2 [(.s 34), (.s 35), (.s 37)]) false false [34, 35, 37], cd (some 2) false none (.mv (.s 33)) false false [33], cd (some 3) false none (.mv (.s 38)) false false [38]] [1, 2, 3, 6, 7, 8] []) (.ret))) (.seq (R [cb 40 (.bin .eql .any (.s 23) (.c (ki .i64 2))), cb 39 (.tk (.s 40))] [1, 4, 5, 6, 7, 8, 23, 39]) (.ite (.s 39) (.seq (R [c0 41 (.mv (.s 4)), cb 42 (.bin .neq .any (.s 41) (.c (ks [47])))] [1, 5, 6, 7, 8, 42]) (.ite (.s 42) (.seq (RD [cd (some 43) false none (.ld true 2 (.s 6)) false false [6], cd (some 44) false none (.ld true 2 (.s 8)) false false [8], cd (some 45) false none (.bsl 2 [(.s 43), (.s 44)]) false false [43, 44], cd (some 46) false none (.ld true 2 (.s 6)) false false [6], cd (some 47) false none (.ld true 2 (.s 7)) false false [7], cd (some 48) false none (.mv (.s 5)) false false [5], cd (some 49) false none (.bld [ks [], ki .u8 0] [(0, 1, (.s 48)), (1, 1, (.c (ki .u8 107)))]) false false [48], cd (some 50) false none (.bsl 2 [(.s 46), (.s 47), (.s 49)]) false false [46, 47, 49], cd (some 2) false none (.mv (.s 45)) false false [45], cd (some 3) false none (.mv (.s 50)) false false [50]] [1, 2, 3, 6, 7, 8] []) (.ret)) (.skip))) (.seq (R [cb 52 (.bin .eql .any (.s 23) (.c (ki .i64 3))), cb 51 (.tk (.s 52))] [1, 4, 6, 7, 8, 23, 51]) (.ite (.s 51) (.seq (R [c0 53 (.mv (.s 4)), cb 54 (.bin .neq .any (.s 53) (.c (ks [47])))] [1, 6, 7, 8, 54]) (.ite (.s 54) (.seq (RD [cd (some 55) false none (.ld true 2 (.s 6)) false false [6], cd (some 56) false none (.bsl 2 [(.s 55)]) false false [55], cd (some 57) false none (.ld true 2 (.s 7)) false false [7], cd (some 58) false none (.bsl 2 [(.s 57)]) false false [57], cd (some 2) false none (.mv (.s 56)) false false [56], cd (some 3) false none (.mv (.s 58)) false false [58]] [1, 2, 3, 6, 7, 8] []) (.ret)) (.skip))) (.seq (R [cb 60 (.bin .eql .any (.s 23) (.c (ki .i64 6))), cb 59 (.tk (.s 60))] [1, 4, 6, 7, 8, 23, 59]) (.ite (.s 59) (.seq (R [c0 61 (.mv (.s 4)), cb 62 (.bin .neq .any (.s 61) (.c (ks [47])))] [1, 6, 7, 8, 62]) (.ite (.s 62) (.seq (RD [cd (some 63) false none (.ld true 2 (.s 6)) false false [6], cd (some 64) false none (.ld true 2 (.s 7)) false false [7], cd (some 65) false none (.bsl 2 [(.s 63), (.s 64)]) false false [63, 64], cd (some 66) false none (.ld true 2 (.s 7)) false false [7], cd (some 67) false none (.bsl 2 [(.s 66)]) false false [66], cd (some 2) false none (.mv (.s 65)) false false [65], cd (some 3) false none (.mv (.s 67)) false false [67]] [1, 2, 3, 6, 7, 8] []) (.ret)) (.skip))) (.seq (R [cb 69 (.bin .eql .any (.s 23) (.c (ki .i64 4))), cb 68 (.tk (.s 69))] [1, 6, 7, 8, 23, 68]) (.ite (.s 68) (.seq (R [c0 70 (.ld true 2 (.s 6)), c0 71 (.ld true 2 (.s 7)), c0 72 (.bsl 2 [(.s 70), (.s 71)]), c0 2 (.mv (.s 72)), c0 3 (.mv (.c (kn 2)))] [1, 2, 3, 6, 7, 8]) (.ret)) (.seq (R [cb 74 (.bin .eql .any (.s 23) (.c (ki .i64 5))), cb 73 (.tk (.s 74))] [1, 6, 7, 8, 73]) (.ite (.s 73) (.seq (R [c0 75 (.ld true 2 (.s 6)), c0 76 (.ld true 2 (.s 8)), c0 77 (.bsl 2 [(.s 75), (.s 76)]), c0 2 (.mv (.s 77)), c0 3 (.mv (.c (kn 2)))] [1, 2, 3, 6, 7, 8]) (.ret)) (.skip))))))))))))))) (.seq (R [c0 2 (.mv (.c (kn 2))), c0 3 (.mv (.c (kn 2)))] [1, 2, 3, 6, 7, 8]) (.ret)))))))))
theorem fun101 : Fun Tryz.prog cfg 101 78 cd101 [.s 2, .s 3] := ⟨rfl, Tryz.f101, _, Tryz.func101, rfl, rfl, by kernel_rfl, by kernel_rfl⟩
@[go_sem] theorem ok101 : calleeOK Tryz.prog 101 = true := by kernel_rfl
@[go_sem] theorem ex101 : (cfg.ext 101).isSome = false := rfl
def cd102 : Cd := .seq (R [cb 4 (.tk (.c (kb false)))] [0, 1]) (.seq (.seq (R [c0 5 (.tk (.c (ki .i64 0)))] [0, 1, 5]) (.block 0 (LP [0, 1, 5] (.seq (.seq (R [c0 7 (.mv (.s 5)), c0 8 (.mv (.s 0)), c0 9 (.len 1 (.s 8)), cb 10 (.bin .lss .any (.s 7) (.s 9))] [0, 1, 5, 10]) (.ite (.s 10) (.skip) (.exit 0))) (.seq (.block 1 (.seq (R [c0 6 (.tk (.c (ki .i64 0)))] [0, 1, 5, 6]) (.block 2 (LP [0, 1, 5, 6] (.seq (.seq (R [c0 13 (.mv (.s 6)), c0 14 (.mv (.s 1)), c0 15 (.len 1 (.s 14)), cb 16 (.bin .lss .any (.s 13) (.s 15))] [0, 1, 5, 6, 16]) (.ite (.s 16) (.skip) (.exit 2))) (.seq (.block 3 (.seq (RD [cd (some 19) false none (.mv (.s 0)) false false [0], cd (some 20) false none (.mv (.s 5)) false false [5], cd (some 21) false none (.ixp 2 (.s 19) (.s 20)) false false [19, 20], cd (some 22) false none (.ld true 2 (.s 21)) false false [21], cd (some 23) false none (.mv (.s 1)) false false [1], cd (some 24) false none (.mv (.s 6)) false false [6], cd (some 25) false none (.ixp 2 (.s 23) (.s 24)) false false [23, 24], cd (some 26) false none (.ld true 2 (.s 25)) false false [25], cd (some 27) true none (.bin .eql (.flat [2, 0]) (.s 22) (.s 26)) false false [22, 26]] [0, 1, 5, 6, 27] []) (.ite (.s 27) (.seq (R [cb 4 (.tk (.c (kb true)))] [4]) (.ret)) (.skip)))) (R [c0 17 (.mv (.s 6)), c0 18 (.bin .add .any (.s 17) (.c (ki .i64 1))), c0 6 (.tk (.s 18))] [0, 1, 5, 6]))))))) (R [c0 11 (.mv (.s 5)), c0 12 (.bin .add .any (.s 11) (.c (ki .i64 1))), c0 5 (.tk (.s 12))] [0, 1, 5])))))) (.seq (R [cb 4 (.tk (.c (kb false)))] [4]) (.ret)))
theorem fun102 : Fun Tryz.prog cfg 102 28 cd102 [.s 4] := ⟨rfl, Tryz.f102, _, Tryz.func102, rfl, rfl, by kernel_rfl, by kernel_rfl⟩
@[go_sem] theorem ok102 : calleeOK Tryz.prog 102 = true := by kernel_rfl
@[go_sem] theorem ex102 : (cfg.ext 102).isSome = false := rfl
def cd72 : Cd := .seq (R [c0 2 (.new false (.s 0)), c0 3 (.new false (.s 1)), cb 4 (.tk (.c (kb false)))] [2, 3]) (.seq (R [c0 10 (.ld true 8 (.s 2)), c0 11 (.call none (.c (kf 101)) [(.s 10)]), c0 9 (.tk (.s 11)), c0 12 (.exh (.s 9)), c0 13 (.ext (.s 9) 1), c0 5 (.tk (.s 12)), c0 6 (.tk (.s 13))] [2, 3, 5, 6]) (.seq (R [c0 15 (.ld true 8 (.s 3)), c0 16 (.call none (.c (kf 101)) [(.s 15)]), c0 14 (.tk (.s 16)), c0 17 (.exh (.s 14)), c0 18 (.ext (.s 14) 1), c0 7 (.tk (.s 17)), c0 8 (.tk (.s 18))] [2, 3, 5, 6, 7, 8]) (.seq (R [c0 19 (.mv (.s 6)), c0 20 (.mv (.s 7)), cb 21 (.call none (.c (kf 102)) [(.s 19), (.s 20)]), cb 22 (.mv (.s 21)), cg 23 22 false (.mv (.s 6)), cg 24 22 false (.mv (.s 8)), ch 25 22 false (.call none (.c (kf 102)) [(.s 23), (.s 24)]), cb 26 (.pick (.s 22) (.c (kb true)) (.s 25)), cb 27 (.mv (.s 26)), cg 28 27 false (.mv (.s 8)), cg 29 27 false (.mv (.s 5)), ch 30 27 false (.call none (.c (kf 102)) [(.s 28), (.s 29)]), cb 31 (.pick (.s 27) (.c (kb true)) (.s 30)), cb 4 (.tk (.s 31))] [2, 3, 4]) (.ret))))
theorem fun72 : Fun Tryz.prog cfg 72 32 cd72 [.s 4] := ⟨rfl, Tryz.f72, _, Tryz.func72, rfl, rfl, by kernel_rfl, by kernel_rfl⟩
@[go_sem] theorem ok72 : calleeOK Tryz.prog 72 = true := by kernel_rfl
@[go_sem] theorem ex72 : (cfg.ext 72).isSome = false := rfl
def cd71 : Cd := .seq (R [c0 1 (.new false (.s 0)), cb 2 (.tk (.c (kb false)))] [1]) (.seq (R [c0 3 (.mov 2 (.s 1)), c0 4 (.ld false 1 (.s 3)), cb 5 (.bin .eql .any (.s 4) (.c (ki .i64 7))), cb 6 (.mv (.s 5)), cg 7 6 false (.mov 2 (.s 1)), cg 8 6 false (.ld false 1 (.s 7)), ch 9 6 false (.bin .eql .any (.s 8) (.c (ki .i64 8))), cb 10 (.pick (.s 6) (.c (kb true)) (.s 9)), cb 11 (.mv (.s 10)), cg 12 11 false (.mov 2 (.s 1)), cg 13 11 false (.ld false 1 (.s 12)), ch 14 11 false (.bin .eql .any (.s 13) (.c (ki .i64 9))), cb 15 (.pick (.s 11) (.c (kb true)) (.s 14)), cb 2 (.tk (.s 15))] [1, 2]) (.ret))
theorem fun71 : Fun Tryz.prog cfg 71 16 cd71 [.s 2] := ⟨rfl, Tryz.f71, _, Tryz.func71, rfl, rfl, by kernel_rfl, by kernel_rfl⟩
@[go_sem] theorem ok71 : calleeOK Tryz.prog 71 = true := by kernel_rfl
@[go_sem] theorem ex71 : (cfg.ext 71).isSome = false := rfl
def cd35 : Cd := .seq (R [c0 2 (.new false (.s 0)), c0 3 (.new false (.s 1)), cb 4 (.tk (.c (kb false)))] [2, 3]) (.seq (.seq (R [c0 5 (.mov 2 (.s 2)), c0 6 (.ld false 1 (.s 5)), cb 7 (.bin .eql .any (.s 6) (.c (ki .i64 0))), cb 8 (.mv (.s 7)), cg 9 8 false (.mov 2 (.s 3)), cg 10 8 false (.ld false 1 (.s 9)), ch 11 8 false (.bin .eql .any (.s 10) (.c (ki .i64 0))), cb 12 (.pick (.s 8) (.c (kb true)) (.s 11))] [2, 3, 12]) (.ite (.s 12) (.seq (R [cb 4 (.tk (.c (kb false)))] [2, 3, 4]) (.ret)) (.skip))) (.seq (R [c0 13 (.ld true 8 (.s 2)), cb 14 (.call none (.c (kf 71)) [(.s 13)]), cb 15 (.mv (.s 14)), cg 16 15 false (.ld true 8 (.s 3)), ch 17 15 false (.call none (.c (kf 71)) [(.s 16)]), cb 18 (.pick (.s 15) (.c (kb true)) (.s 17)), cb 19 (.mv (.s 18)), cg 20 19 false (.mov 0 (.s 2)), cg 21 19 false (.ld false 1 (.s 20)), cg 22 19 false (.mov 0 (.s 3)), cg 23 19 false (.ld false 1 (.s 22)), ch 24 19 false (.bin .eql .any (.s 21) (.s 23)), cb 25 (.pick (.s 19) (.c (kb true)) (.s 24)), cb 26 (.mv (.s 25)), cg 27 26 false (.ld true 8 (.s 2)), cg 28 26 false (.ld true 8 (.s 3)), ch 29 26 false (.call none (.c (kf 72)) [(.s 27), (.s 28)]), cb 30 (.pick (.s 26) (.c (kb true)) (.s 29)), cb 4 (.tk (.s 30))] [2, 3, 4]) (.ret)))
theorem fun35 : Fun Tryz.prog cfg 35 31 cd35 [.s 4] := ⟨rfl, Tryz.f35, _, Tryz.func35, rfl, rfl, by kernel_rfl, by kernel_rfl⟩
@[go_sem] theorem ok35 : calleeOK Tryz.prog 35 = true := by kernel_rfl
@[go_sem] theorem ex35 : (cfg.ext 35).isSome = false := rfl
variable {h : DHeap}
theorem eqs_cel (c d : Cel) : eqs [2, 0] [.sc (.string (mkB c.1)), .sc (.int .u8 c.2.toNat)] [.sc (.string (mkB d.1)), .sc (.int .u8 d.2.toNat)] = some (decide (c = d)) := eqK_cel c d
theorem rcells_lim (c : Cmd) (hp : c.path.length ≤ 1048575) : lim Tryz.prog cfg 101 [cmdD c] h = some (.tup [.list false 2 (cls (usesP c).1), .list false 2 (cls (usesP c).2)], h) := by
  refine lim_funp fun101 rfl (by simp) rfl (by simp [heapFree, heapFree.all, free_cls]) ?_
  delta cd101
  have v := rvalid_lim (h := []) c.path hp
  have u := rparent_lim (h := []) c.path hp
  unfold usesP
  cases h1 : parse c.path with
  | none =>
    rw [h1] at v
    simp -implicitDefEqProofs -dsimp only [go_sem, v]
    simp [cls]
  | some l =>
    rw [h1] at v
    have hr := root_iff h1
    by_cases o4 : c.op = 4
    · simp -implicitDefEqProofs -dsimp only [go_sem, v, u, o4]
      simp [cls, ofP]
    by_cases o5 : c.op = 5
    · simp -implicitDefEqProofs -dsimp only [go_sem, v, u, o4, o5]
      simp [cls, ofP]
    by_cases r : c.path = [47]
    · have r' := hr.2 r
      rw [r] at v u r'
      by_cases o1 : c.op = 1
      · simp -implicitDefEqProofs -dsimp only [go_sem, v, u, r, r', o1]
        simp [cls, ofP]
      by_cases o2 : c.op = 2
      · simp -implicitDefEqProofs -dsimp only [go_sem, v, u, r, r', o2]
        simp [cls, ofP]
      by_cases o3 : c.op = 3
      · simp -implicitDefEqProofs -dsimp only [go_sem, v, u, r, r', o3]
        simp [cls, ofP]
      by_cases o6 : c.op = 6
      · simp -implicitDefEqProofs -dsimp only [go_sem, v, u, r, r', o6]
        simp [cls, ofP]
      · simp -implicitDefEqProofs -dsimp only [go_sem, v, u, r, r', o4, o5, o1, o2, o3, o6]
        simp [cls, ofP]
    have r' : ¬ parentP c.path = [] := fun e => r (hr.1 e)
    by_cases o1 : c.op = 1
    · simp -implicitDefEqProofs -dsimp only [go_sem, v, u, r, r', o1]
      simp [cls, ofP]
    by_cases o2 : c.op = 2
    · simp -implicitDefEqProofs -dsimp only [go_sem, v, u, r, r', o2]
      simp [cls, ofP]
    by_cases o3 : c.op = 3
    · simp -implicitDefEqProofs -dsimp only [go_sem, v, u, r, r', o3]
      simp [cls, ofP]
    by_cases o6 : c.op = 6
    · simp -implicitDefEqProofs -dsimp only [go_sem, v, u, r, r', o6]
      simp [cls, ofP]
    · simp -implicitDefEqProofs -dsimp only [go_sem, v, u, r, r', o4, o5, o1, o2, o3, o6]
      simp [cls, ofP]
theorem meet_lim (o1 o2 : Bool) (a b : List Cel) (ha : a.length ≤ 1000) (hb : b.length ≤ 1000) : lim Tryz.prog cfg 102 [.list o1 2 (cls a), .list o2 2 (cls b)] h = some (vb (meetB a b), h) := by
  refine lim_funp fun102 rfl (by simp) (by simp [heapFree, free_cls]) rfl ?_
  delta cd102
  simp -implicitDefEqProofs -dsimp only [go_sem]
  refine wp_for (σ := Nat) (fun k => [(0, .list false 2 (cls a)), (1, .list false 2 (cls b)), (5, vi (k : Nat))]) (fun _ => []) (fun k => a.length - k) (fun k => k ≤ a.length ∧ ∀ j (hj : j < a.length), j < k → a[j] ∉ b) 0 (by simp) rfl rfl ?_
  rintro k ⟨hk, hj⟩ N hN
  by_cases hlt : k < a.length
  · have h1 : ((k : Int) < (a.length : Int)) := by omega
    simp -implicitDefEqProofs -dsimp only [go_sem, h1]
    refine wp_for (σ := Nat) (fun i => [(0, .list false 2 (cls a)), (1, .list false 2 (cls b)), (5, vi (k : Nat)), (6, vi (i : Nat))]) (fun _ => []) (fun i => b.length - i) (fun i => i ≤ b.length ∧ ∀ j (hj : j < b.length), j < i → a[k] ≠ b[j]) 0 (by simp) rfl rfl ?_
    rintro i ⟨hi, hji⟩ N2 hN2
    by_cases hlt2 : i < b.length
    · have h2 : ((i : Int) < (b.length : Int)) := by omega
      simp -implicitDefEqProofs -dsimp only [go_sem, h2, hlt, hlt2, eqs_cel]
      refine ⟨fun hc => ?_, fun hc => hN2 (i + 1) _ (by omega) ⟨by omega, fun j hj1 hj2 => ?_⟩ ?_⟩
      · have e : meetB a b = true := by
          unfold meetB
          rw [List.any_eq_true]
          exact ⟨a[k], List.getElem_mem _, by simp only [decide_eq_true_eq]; rw [hc]; exact List.getElem_mem _⟩
        rw [e]
      · by_cases e : j = i
        · subst e; exact hc
        · exact hji j hj1 (by omega)
      · simp -implicitDefEqProofs -dsimp only [go_sem, wrap_succ (show i < 9223372036854775807 by omega)]
    · have h2 : ¬ ((i : Int) < (b.length : Int)) := by omega
      simp -implicitDefEqProofs -dsimp only [go_sem, h2]
      refine hN (k + 1) _ (by omega) ⟨by omega, fun j hj1 hj2 => ?_⟩ ?_
      · by_cases e : j = k
        · subst e
          intro hmem
          obtain ⟨q, hq, e⟩ := List.getElem_of_mem hmem
          exact hji q hq (by omega) e.symm
        · exact hj j hj1 (by omega)
      · simp -implicitDefEqProofs -dsimp only [go_sem, wrap_succ (show k < 9223372036854775807 by omega)]
  · have h1 : ¬ ((k : Int) < (a.length : Int)) := by omega
    have e : meetB a b = false := by
      unfold meetB
      rw [← Bool.not_eq_true, List.any_eq_true]
      rintro ⟨c, hc, h2⟩
      obtain ⟨q, hq, rfl⟩ := List.getElem_of_mem hc
      exact hj q hq (by omega) (by simpa using h2)
    simp -implicitDefEqProofs -dsimp only [go_sem, h1, e]
theorem rpaths_lim (a b : Cmd) (ha : a.path.length ≤ 1048575) (hb : b.path.length ≤ 1048575) : lim Tryz.prog cfg 72 [cmdD a, cmdD b] h = some (vb (pathsB a b), h) := by
  refine lim_funp fun72 rfl (by simp) rfl rfl ?_
  delta cd72
  have v := rcells_lim (h := []) a ha
  have w := rcells_lim (h := []) b hb
  have la := uses_le a
  have lb := uses_le b
  have x := meet_lim (h := []) false false (usesP a).2 (usesP b).1 (by omega) (by omega)
  have y := meet_lim (h := []) false false (usesP a).2 (usesP b).2 (by omega) (by omega)
  have z := meet_lim (h := []) false false (usesP b).2 (usesP a).1 (by omega) (by omega)
  rw [paths_meet]
  generalize meetB (usesP a).2 (usesP b).1 = p at x ⊢
  generalize meetB (usesP a).2 (usesP b).2 = q at y ⊢
  generalize meetB (usesP b).2 (usesP a).1 = r at z ⊢
  cases p <;> cases q <;> cases r <;> simp -implicitDefEqProofs -dsimp only [go_sem, v, w, x, y, z]
theorem rcontrol_lim (c : Cmd) : lim Tryz.prog cfg 71 [cmdD c] h = some (vb (controlB c), h) := by
  refine lim_funp fun71 rfl (by simp) rfl rfl ?_
  delta cd71
  have hb : controlB c = (decide (c.op = 7) || decide (c.op = 8) || decide (c.op = 9)) := by
    unfold controlB
    rw [Bool.eq_iff_iff]
    simp only [Bool.and_eq_true, Bool.or_eq_true, decide_eq_true_eq]
    omega
  rw [hb]
  by_cases h7 : c.op = 7
  · simp -implicitDefEqProofs -dsimp only [go_sem, h7]
  by_cases h8 : c.op = 8
  · simp -implicitDefEqProofs -dsimp only [go_sem, h7, h8]
  by_cases h9 : c.op = 9
  · simp -implicitDefEqProofs -dsimp only [go_sem, h7, h8, h9]
  · simp -implicitDefEqProofs -dsimp only [go_sem, h7, h8, h9]
theorem rboth_lim (a b : Cmd) (ha : a.path.length ≤ 1048575) (hb : b.path.length ≤ 1048575) : lim Tryz.prog cfg 35 [cmdD a, cmdD b] h = some (vb (bothB a b), h) := by
  refine lim_funp fun35 rfl (by simp) rfl rfl ?_
  delta cd35
  have v := rcontrol_lim (h := []) a
  have w := rcontrol_lim (h := []) b
  have x := rpaths_lim (h := []) a b ha hb
  unfold bothB
  by_cases o1 : a.op = 0
  · simp -implicitDefEqProofs -dsimp only [go_sem, o1]
    simp
  by_cases o2 : b.op = 0
  · simp -implicitDefEqProofs -dsimp only [go_sem, o1, o2]
    simp
  generalize controlB a = p at v ⊢
  generalize controlB b = q at w ⊢
  generalize pathsB a b = z at x ⊢
  cases p <;> cases q <;> cases z <;> simp -implicitDefEqProofs -dsimp only [go_sem, o1, o2, v, w, x] <;> by_cases o3 : a.client = b.client <;> simp [o3]
end Go.DS

/-
  How the reference puts one at its place: plain.
-/
namespace Go.DS
open Go
set_option linter.unusedVariables false
def stepI (x : Id) (s : List Id × Bool) (o : Id) : List Id × Bool :=
  ((if o = x then (if !s.2 && lessI x o then s.1 ++ [x] else s.1) else (if !s.2 && lessI x o then s.1 ++ [x] else s.1) ++ [o]), s.2 || lessI x o)
def setI (l : List Id) (x : Id) : List Id := if (l.foldl (stepI x) ([], false)).2 then (l.foldl (stepI x) ([], false)).1 else (l.foldl (stepI x) ([], false)).1 ++ [x]
/-- What holds of what was put so far. -/
structure PutOK (x : Id) (p : List Id) (s : List Id × Bool) : Prop where
  rises : Rises s.1
  mem : ∀ y, y ∈ s.1 ↔ (y ∈ p ∧ y ≠ x) ∨ (s.2 = true ∧ y = x)
  done : s.2 = true → ∃ y ∈ p, ordI x y < 0
  not : s.2 = false → ∀ y ∈ p, ¬ ordI x y < 0
theorem lessI_true {a b : Id} : lessI a b = true ↔ ordI a b < 0 := by simp [lessI]
theorem ordI_tri {a b : Id} (h1 : ¬ ordI a b < 0) (h2 : b ≠ a) : ordI b a < 0 := by
  rw [ordI_lt] at *
  have : ¬ (b.e = a.e ∧ b.n = a.n ∧ b.k = a.k) := fun ⟨e1, e2, e3⟩ => h2 (by cases a; cases b; simp_all)
  omega
theorem ordI_trans {a b c : Id} (h1 : ordI a b < 0) (h2 : ordI b c < 0) : ordI a c < 0 := by
  rw [ordI_lt] at *
  omega
theorem ordI_irr (a : Id) : ¬ ordI a a < 0 := by rw [ordI_lt]; omega
theorem rises_app {l : List Id} {o : Id} (h : Rises l) (h2 : ∀ y ∈ l, ordI y o < 0) : Rises (l ++ [o]) := by
  unfold Rises at *
  rw [List.pairwise_append]
  refine ⟨h, List.pairwise_singleton .., fun a ha b hb => ?_⟩
  rw [List.mem_singleton.1 hb]
  exact h2 a ha
theorem put_step {x : Id} {p : List Id} {s : List Id × Bool} (H : PutOK x p s) {o : Id} (ho : ∀ y ∈ p, ordI y o < 0) : PutOK x (p ++ [o]) (stepI x s o) := by
  obtain ⟨l, d⟩ := s
  obtain ⟨h1, h2, h3, h4⟩ := H
  dsimp only at h1 h2 h3 h4
  cases d with
  | true =>
    obtain ⟨z, hz, hxz⟩ := h3 rfl
    have hxo := ordI_trans hxz (ho z hz)
    have hne : o ≠ x := fun e => ordI_irr x (by rw [e] at hxo; exact hxo)
    have hl : ∀ y ∈ l, ordI y o < 0 := fun y hy => by
      rcases (h2 y).1 hy with ⟨hy, _⟩ | ⟨_, e⟩
      · exact ho y hy
      · rw [e]; exact hxo
    have es : stepI x (l, true) o = (l ++ [o], true) := by simp [stepI, hne]
    rw [es]
    refine ⟨rises_app h1 hl, fun y => ?_, fun _ => ⟨o, by simp, hxo⟩, fun h => (by cases h)⟩
    simp only [List.mem_append, List.mem_singleton, h2]
    constructor
    · rintro ((⟨a, b⟩ | ⟨_, b⟩) | b)
      · exact .inl ⟨.inl a, b⟩
      · exact .inr ⟨trivial, b⟩
      · exact .inl ⟨.inr b, by rw [b]; exact hne⟩
    · rintro (⟨a | a, b⟩ | ⟨_, b⟩)
      · exact .inl (.inl ⟨a, b⟩)
      · exact .inr a
      · exact .inl (.inr ⟨trivial, b⟩)
  | false =>
    have h4 := h4 rfl
    have hm : ∀ y, y ∈ l ↔ y ∈ p ∧ y ≠ x := fun y => by rw [h2]; simp
    have hl : ∀ y ∈ l, ordI y o < 0 := fun y hy => ho y ((hm y).1 hy).1
    cases c : lessI x o with
    | true =>
      have hxo := lessI_true.1 c
      have hne : o ≠ x := fun e => ordI_irr x (by rw [e] at hxo; exact hxo)
      have hlx : ∀ y ∈ l, ordI y x < 0 := fun y hy => ordI_tri (h4 y ((hm y).1 hy).1) ((hm y).1 hy).2
      have es : stepI x (l, false) o = (l ++ [x] ++ [o], true) := by simp [stepI, hne, c]
      rw [es]
      refine ⟨rises_app (rises_app h1 hlx) fun y hy => ?_, fun y => ?_, fun _ => ⟨o, by simp, hxo⟩, fun h => (by cases h)⟩
      · rcases List.mem_append.1 hy with hy | hy
        · exact hl y hy
        · rw [List.mem_singleton.1 hy]; exact hxo
      · simp only [List.mem_append, List.mem_singleton, hm]
        constructor
        · rintro ((⟨a, b⟩ | b) | b)
          · exact .inl ⟨.inl a, b⟩
          · exact .inr ⟨trivial, b⟩
          · exact .inl ⟨.inr b, by rw [b]; exact hne⟩
        · rintro (⟨a | a, b⟩ | ⟨_, b⟩)
          · exact .inl (.inl ⟨a, b⟩)
          · exact .inr a
          · exact .inl (.inr b)
    | false =>
      have hxo : ¬ ordI x o < 0 := fun h => by rw [lessI_true.2 h] at c; cases c
      have h4' : ∀ y ∈ p ++ [o], ¬ ordI x y < 0 := fun y hy => by
        rcases List.mem_append.1 hy with hy | hy
        · exact h4 y hy
        · rw [List.mem_singleton.1 hy]; exact hxo
      by_cases he : o = x
      · have es : stepI x (l, false) o = (l, false) := by simp [stepI, he, c, show lessI x x = false by rw [← he] at c ⊢; exact c]
        rw [es]
        refine ⟨h1, fun y => ?_, fun h => (by cases h), fun _ => h4'⟩
        simp only [List.mem_append, List.mem_singleton, hm]
        constructor
        · rintro ⟨a, b⟩; exact .inl ⟨.inl a, b⟩
        · rintro (⟨a | a, b⟩ | ⟨a, _⟩)
          · exact ⟨a, b⟩
          · exact absurd (a.trans he) b
          · cases a
      · have es : stepI x (l, false) o = (l ++ [o], false) := by simp [stepI, he, c]
        rw [es]
        refine ⟨rises_app h1 hl, fun y => ?_, fun h => (by cases h), fun _ => h4'⟩
        simp only [List.mem_append, List.mem_singleton, hm]
        constructor
        · rintro (⟨a, b⟩ | b)
          · exact .inl ⟨.inl a, b⟩
          · exact .inl ⟨.inr b, by rw [b]; exact he⟩
        · rintro (⟨a | a, b⟩ | ⟨a, _⟩)
          · exact .inl ⟨a, b⟩
          · exact .inr a
          · cases a
theorem put_take {x : Id} {l : List Id} (hl : Rises l) (k : Nat) (hk : k ≤ l.length) : PutOK x (l.take k) ((l.take k).foldl (stepI x) ([], false)) := by
  induction k with
  | zero => exact ⟨List.Pairwise.nil, fun y => by simp, fun h => (by cases h), fun _ y hy => by simp at hy⟩
  | succ k ih =>
    have hlt : k < l.length := by omega
    rw [List.take_succ_eq_append_getElem hlt, List.foldl_append]
    refine put_step (ih (by omega)) fun y hy => ?_
    obtain ⟨i, hi, e⟩ := List.mem_take_iff_getElem.1 hy
    rw [← e]
    exact List.pairwise_iff_getElem.1 hl i k (by omega) hlt (by omega)
theorem setI_ok {x : Id} {l : List Id} (hl : Rises l) : Rises (setI l x) ∧ ∀ y, y ∈ setI l x ↔ y = x ∨ y ∈ l := by
  have H := put_take (x := x) hl l.length (Nat.le_refl _)
  rw [List.take_length] at H
  unfold setI
  generalize l.foldl (stepI x) ([], false) = s at *
  obtain ⟨m, d⟩ := s
  obtain ⟨h1, h2, h3, h4⟩ := H
  dsimp only at h1 h2 h3 h4 ⊢
  cases d with
  | true =>
    refine ⟨h1, fun y => ?_⟩
    rw [if_pos rfl, h2]
    by_cases e : y = x <;> simp [e]
  | false =>
    rw [if_neg (by simp)]
    have hm : ∀ y, y ∈ m ↔ y ∈ l ∧ y ≠ x := fun y => by rw [h2]; simp
    refine ⟨rises_app h1 fun y hy => ordI_tri (h4 rfl y ((hm y).1 hy).1) ((hm y).1 hy).2, fun y => ?_⟩
    simp only [List.mem_append, List.mem_singleton, hm]
    by_cases e : y = x <;> simp [e]
theorem setI_put {x : Id} {l : List Id} (hl : Rises l) (hx : x ∉ l) : setI l x = putP l x := by
  obtain ⟨h1, h2⟩ := setI_ok (x := x) hl
  exact rises_eq h1 (put_rises hl) fun y => by rw [h2, put_mem]
theorem step_len (x : Id) (s : List Id × Bool) (o : Id) : (stepI x s o).1.length ≤ s.1.length + 2 := by
  unfold stepI
  dsimp only
  repeat' split
  all_goals first | omega | (simp only [List.length_append, List.length_cons, List.length_nil]; omega)
theorem foldStep_len (x : Id) (l : List Id) (s : List Id × Bool) : (l.foldl (stepI x) s).1.length ≤ s.1.length + 2 * l.length := by
  induction l generalizing s with
  | nil => exact Nat.le_add_right _ _
  | cons o l ih =>
    have h1 := ih (stepI x s o)
    have h2 := step_len x s o
    rw [List.foldl_cons, List.length_cons]
    omega
theorem step_snoc (x : Id) {l : List Id} {k : Nat} (hk : k < l.length) : (l.take (k + 1)).foldl (stepI x) ([], false) = stepI x ((l.take k).foldl (stepI x) ([], false)) l[k] := by
  rw [List.take_succ_eq_append_getElem hk, List.foldl_append]; rfl
theorem putP_len (l : List Id) (x : Id) : (putP l x).length ≤ l.length + 1 := by
  unfold putP
  split
  · omega
  · have h : ∀ l : List Id, (l.filter (fun y => decide (ordI y x < 0))).length + (l.filter (fun y => !decide (ordI y x < 0))).length = l.length := fun l => by
      induction l with
      | nil => rfl
      | cons a l ih =>
        by_cases c : ordI a x < 0 <;> simp [c] <;> omega
    have := h l
    simp only [List.length_append, List.length_cons]
    omega
theorem rclean_take (l : List Id) (k : Nat) : Rises ((l.take k).foldl putP []) := (rclean_go (l.take k) [] List.Pairwise.nil).1
theorem rcleanT_len (l : List Id) (k : Nat) : ((l.take k).foldl putP []).length ≤ k := by
  induction k with
  | zero => simp
  | succ k ih =>
    by_cases hk : k < l.length
    · rw [List.take_succ_eq_append_getElem hk, List.foldl_append]
      have := putP_len ((l.take k).foldl putP []) l[k]
      simp only [List.foldl_cons, List.foldl_nil]
      omega
    · rw [List.take_of_length_le (by omega)] at *
      omega
theorem lessI_eq (a b : Id) : lessI a b = if a.e = b.e then (if a.k = b.k then decide (a.n < b.n) else decide (a.k < b.k)) else decide (a.e < b.e) := by
  rw [Bool.eq_iff_iff, lessI_true, ordI_lt]
  split
  · split <;> simp only [decide_eq_true_eq] <;> omega
  · simp only [decide_eq_true_eq]; omega
end Go.DS

/-
  Walks: the reference's functions of instances, ballots, attributes.
-/
namespace Go.DS
open Go Go.Proofs
set_option maxRecDepth 100000
set_option linter.unusedVariables false
set_option linter.unusedSimpArgs false
def cd76 : Cd := .seq (R [c0 2 (.new false (.s 0)), c0 3 (.new false (.s 1)), cb 4 (.tk (.c (kb false)))] [2, 3]) (.seq (.seq (R [c0 5 (.mov 0 (.s 2)), c0 6 (.ld false 1 (.s 5)), c0 7 (.mov 0 (.s 3)), c0 8 (.ld false 1 (.s 7)), cb 9 (.bin .neq .any (.s 6) (.s 8))] [2, 3, 9]) (.ite (.s 9) (.seq (R [c0 10 (.mov 0 (.s 2)), c0 11 (.ld false 1 (.s 10)), c0 12 (.mov 0 (.s 3)), c0 13 (.ld false 1 (.s 12)), cb 14 (.bin .lss .any (.s 11) (.s 13)), cb 4 (.tk (.s 14))] [2, 3, 4]) (.ret)) (.skip))) (.seq (.seq (R [c0 15 (.mov 2 (.s 2)), c0 16 (.ld false 1 (.s 15)), c0 17 (.mov 2 (.s 3)), c0 18 (.ld false 1 (.s 17)), cb 19 (.bin .neq .any (.s 16) (.s 18))] [2, 3, 19]) (.ite (.s 19) (.seq (R [c0 20 (.mov 2 (.s 2)), c0 21 (.ld false 1 (.s 20)), c0 22 (.mov 2 (.s 3)), c0 23 (.ld false 1 (.s 22)), cb 24 (.bin .lss .any (.s 21) (.s 23)), cb 4 (.tk (.s 24))] [2, 3, 4]) (.ret)) (.skip))) (.seq (R [c0 25 (.mov 1 (.s 2)), c0 26 (.ld false 1 (.s 25)), c0 27 (.mov 1 (.s 3)), c0 28 (.ld false 1 (.s 27)), cb 29 (.bin .lss .any (.s 26) (.s 28)), cb 4 (.tk (.s 29))] [2, 3, 4]) (.ret))))
theorem fun76 : Fun Tryz.prog cfg 76 30 cd76 [.s 4] := ⟨rfl, Tryz.f76, _, Tryz.func76, rfl, rfl, by kernel_rfl, by kernel_rfl⟩
@[go_sem] theorem ok76 : calleeOK Tryz.prog 76 = true := by kernel_rfl
@[go_sem] theorem ex76 : (cfg.ext 76).isSome = false := rfl
def cd39 : Cd := .seq (R [c0 1 (.new false (.s 0)), cb 2 (.tk (.c (kb false)))] [1]) (.seq (R (c0 3 (.mov 0 (.s 1)) :: c0 4 (.ld false 1 (.s 3)) :: cb 5 (.bin .geq .any (.s 4) (.c (ki .i64 0))) :: cb 6 (.mv (.s 5)) :: cg 7 6 true (.mov 0 (.s 1)) :: cg 8 6 true (.ld false 1 (.s 7)) :: ch 9 6 true (.bin .leq .any (.s 8) (.c (ki .i64 1048576))) :: cb 10 (.pick (.s 6) (.s 9) (.c (kb false))) :: cb 11 (.mv (.s 10)) :: cg 12 11 true (.mov 1 (.s 1)) :: cg 13 11 true (.ld false 1 (.s 12)) :: ch 14 11 true (.bin .geq .any (.s 13) (.c (ki .i64 0))) :: cb 15 (.pick (.s 11) (.s 14) (.c (kb false))) :: cb 16 (.mv (.s 15)) :: cg 17 16 true (.mov 1 (.s 1)) :: cg 18 16 true (.ld false 1 (.s 17)) :: ch 19 16 true (.bin .leq .any (.s 18) (.c (ki .i64 31))) :: cb 20 (.pick (.s 16) (.s 19) (.c (kb false))) :: cb 21 (.mv (.s 20)) :: cg 22 21 true (.mov 2 (.s 1)) :: cg 23 21 true (.ld false 1 (.s 22)) :: ch 24 21 true (.bin .geq .any (.s 23) (.c (ki .i64 0))) :: cb 25 (.pick (.s 21) (.s 24) (.c (kb false))) :: cb 26 (.mv (.s 25)) :: cg 27 26 true (.mov 2 (.s 1)) :: cg 28 26 true (.ld false 1 (.s 27)) :: ch 29 26 true (.bin .leq .any (.s 28) (.c (ki .i64 1099511627776))) :: cb 30 (.pick (.s 26) (.s 29) (.c (kb false))) :: cb 2 (.tk (.s 30)) :: []) [1, 2]) (.ret))
theorem fun39 : Fun Tryz.prog cfg 39 31 cd39 [.s 2] := ⟨rfl, Tryz.f39, _, Tryz.func39, rfl, rfl, by kernel_rfl, by kernel_rfl⟩
@[go_sem] theorem ok39 : calleeOK Tryz.prog 39 = true := by kernel_rfl
@[go_sem] theorem ex39 : (cfg.ext 39).isSome = false := rfl
def cd103 : Cd := .seq (R [c0 3 (.new false (.s 1)), cb 4 (.tk (.c (kb false)))] [0, 3]) (.seq (.seq (R [c0 5 (.tk (.c (ki .i64 0)))] [0, 3, 5]) (.block 0 (LP [0, 3, 5] (.seq (.seq (R [c0 6 (.mv (.s 5)), c0 7 (.mv (.s 0)), c0 8 (.len 1 (.s 7)), cb 9 (.bin .lss .any (.s 6) (.s 8))] [0, 3, 5, 9]) (.ite (.s 9) (.skip) (.exit 0))) (.seq (.block 1 (.seq (RD [cd (some 12) false none (.mv (.s 0)) false false [0], cd (some 13) false none (.mv (.s 5)) false false [5], cd (some 14) false none (.ixp 3 (.s 12) (.s 13)) false false [12, 13], cd (some 15) false none (.ld true 3 (.s 14)) false false [14], cd (some 16) false none (.ld true 3 (.s 3)) false false [3], cd (some 17) true none (.bin .eql (.flat [0, 0, 0]) (.s 15) (.s 16)) false false [15, 16]] [0, 3, 5, 17] []) (.ite (.s 17) (.seq (R [cb 4 (.tk (.c (kb true)))] [3, 4]) (.ret)) (.skip)))) (R [c0 10 (.mv (.s 5)), c0 11 (.bin .add .any (.s 10) (.c (ki .i64 1))), c0 5 (.tk (.s 11))] [0, 3, 5])))))) (.seq (R [cb 4 (.tk (.c (kb false)))] [3, 4]) (.ret)))
theorem fun103 : Fun Tryz.prog cfg 103 18 cd103 [.s 4] := ⟨rfl, Tryz.f103, _, Tryz.func103, rfl, rfl, by kernel_rfl, by kernel_rfl⟩
@[go_sem] theorem ok103 : calleeOK Tryz.prog 103 = true := by kernel_rfl
@[go_sem] theorem ex103 : (cfg.ext 103).isSome = false := rfl
def cd73 : Cd := .seq (R [c0 3 (.new false (.s 1)), c0 4 (.tk (.c (kn 3)))] [0, 3]) (.seq (.seq (R [c0 8 (.mv (.s 0)), c0 9 (.ld true 3 (.s 3)), cb 10 (.call none (.c (kf 103)) [(.s 8), (.s 9)])] [0, 3, 10]) (.ite (.s 10) (.seq (R [c0 11 (.tk (.s 0)), c0 4 (.tk (.s 11))] [3, 4]) (.ret)) (.skip))) (.seq (R [c0 5 (.tk (.c (kn 3)))] [0, 3, 5]) (.seq (R [cb 6 (.tk (.c (kb false)))] [0, 3, 5, 6]) (.seq (.seq (R [c0 7 (.tk (.c (ki .i64 0)))] [0, 3, 5, 6, 7]) (.block 0 (LP [0, 3, 5, 6, 7] (.seq (.seq (R [c0 12 (.mv (.s 7)), c0 13 (.mv (.s 0)), c0 14 (.len 1 (.s 13)), cb 15 (.bin .lss .any (.s 12) (.s 14))] [0, 3, 5, 6, 7, 15]) (.ite (.s 15) (.skip) (.exit 0))) (.seq (.block 1 (.seq (.seq (RD [cd (some 18) true none (.mv (.s 6)) false false [6], cd (some 19) true none (.un .not (.s 18)) false false [18], cd (some 20) true none (.mv (.s 19)) false false [19], cd (some 21) false (some (20, true)) (.ld true 3 (.s 3)) false false [3], cd (some 22) false (some (20, true)) (.mv (.s 0)) false false [0], cd (some 23) false (some (20, true)) (.mv (.s 7)) false false [7], cd (some 24) false (some (20, true)) (.ixp 3 (.s 22) (.s 23)) false false [22, 23], cd (some 25) false (some (20, true)) (.ld true 3 (.s 24)) false false [24], cd (some 26) true (some (20, true)) (.call none (.c (kf 76)) [(.s 21), (.s 25)]) false false [21, 25], cd (some 27) true none (.pick (.s 20) (.s 26) (.c (kb false))) false false [20, 26]] [0, 3, 5, 6, 7, 27] []) (.ite (.s 27) (.seq (R [c0 28 (.tk (.s 5)), c0 29 (.ld true 3 (.s 3)), c0 30 (.bsl 3 [(.s 29)]), c0 31 (.app 3 28 false (.s 28) (.s 30)), c0 5 (.tk (.s 31))] [0, 3, 5, 7]) (R [cb 6 (.tk (.c (kb true)))] [0, 3, 5, 6, 7])) (.skip))) (R [c0 32 (.tk (.s 5)), c0 33 (.mv (.s 0)), c0 34 (.mv (.s 7)), c0 35 (.ixp 3 (.s 33) (.s 34)), c0 36 (.ld true 3 (.s 35)), c0 37 (.bsl 3 [(.s 36)]), c0 38 (.app 3 28 false (.s 32) (.s 37)), c0 5 (.tk (.s 38))] [0, 3, 5, 6, 7]))) (R [c0 16 (.mv (.s 7)), c0 17 (.bin .add .any (.s 16) (.c (ki .i64 1))), c0 7 (.tk (.s 17))] [0, 3, 5, 6, 7])))))) (.seq (.seq (R [cb 39 (.mv (.s 6)), cb 40 (.un .not (.s 39))] [3, 5, 40]) (.ite (.s 40) (R [c0 41 (.tk (.s 5)), c0 42 (.ld true 3 (.s 3)), c0 43 (.bsl 3 [(.s 42)]), c0 44 (.app 3 28 false (.s 41) (.s 43)), c0 5 (.tk (.s 44))] [3, 5]) (.skip))) (.seq (R [c0 45 (.tk (.s 5)), c0 4 (.tk (.s 45))] [3, 4]) (.ret)))))))
theorem fun73 : Fun Tryz.prog cfg 73 46 cd73 [.s 4] := ⟨rfl, Tryz.f73, _, Tryz.func73, rfl, rfl, by kernel_rfl, by kernel_rfl⟩
@[go_sem] theorem ok73 : calleeOK Tryz.prog 73 = true := by kernel_rfl
@[go_sem] theorem ex73 : (cfg.ext 73).isSome = false := rfl
def cd36 : Cd := .seq (R [c0 2 (.tk (.c (kn 3)))] [0]) (.seq (R [c0 3 (.tk (.c (kn 3)))] [0, 3]) (.seq (.seq (R [c0 4 (.tk (.c (ki .i64 0)))] [0, 3, 4]) (.block 0 (LP [0, 3, 4] (.seq (.seq (R [c0 5 (.mv (.s 4)), c0 6 (.mv (.s 0)), c0 7 (.len 1 (.s 6)), cb 8 (.bin .lss .any (.s 5) (.s 7))] [0, 3, 4, 8]) (.ite (.s 8) (.skip) (.exit 0))) (.seq (.block 1 (R [c0 11 (.mv (.s 3)), c0 12 (.mv (.s 0)), c0 13 (.mv (.s 4)), c0 14 (.ixp 3 (.s 12) (.s 13)), c0 15 (.ld true 3 (.s 14)), c0 16 (.call none (.c (kf 73)) [(.s 11), (.s 15)]), c0 3 (.tk (.s 16))] [0, 3, 4])) (R [c0 9 (.mv (.s 4)), c0 10 (.bin .add .any (.s 9) (.c (ki .i64 1))), c0 4 (.tk (.s 10))] [0, 3, 4])))))) (.seq (R [c0 17 (.tk (.s 3)), c0 2 (.tk (.s 17))] [2]) (.ret))))
theorem fun36 : Fun Tryz.prog cfg 36 18 cd36 [.s 2] := ⟨rfl, Tryz.f36, _, Tryz.func36, rfl, rfl, by kernel_rfl, by kernel_rfl⟩
@[go_sem] theorem ok36 : calleeOK Tryz.prog 36 = true := by kernel_rfl
@[go_sem] theorem ex36 : (cfg.ext 36).isSome = false := rfl
def cd40 : Cd := .seq (R [cb 2 (.tk (.c (kb false)))] [0]) (.seq (.seq (R [c0 3 (.tk (.c (ki .i64 1)))] [0, 3]) (.block 0 (LP [0, 3] (.seq (.seq (R [c0 4 (.mv (.s 3)), c0 5 (.mv (.s 0)), c0 6 (.len 1 (.s 5)), cb 7 (.bin .lss .any (.s 4) (.s 6))] [0, 3, 7]) (.ite (.s 7) (.skip) (.exit 0))) (.seq (.block 1 (.seq (RD [cd (some 10) false none (.mv (.s 0)) false false [0], cd (some 11) false none (.mv (.s 3)) false false [3], cd (some 12) false none (.bin .sub .any (.s 11) (.c (ki .i64 1))) false false [11], cd (some 13) false none (.ixp 3 (.s 10) (.s 12)) false false [10, 12], cd (some 14) false none (.ld true 3 (.s 13)) false false [13], cd (some 15) false none (.mv (.s 0)) false false [0], cd (some 16) false none (.mv (.s 3)) false false [3], cd (some 17) false none (.ixp 3 (.s 15) (.s 16)) false false [15, 16], cd (some 18) false none (.ld true 3 (.s 17)) false false [17], cd (some 19) true none (.call none (.c (kf 76)) [(.s 14), (.s 18)]) false false [14, 18], cd (some 20) true none (.un .not (.s 19)) false false [19]] [0, 3, 20] []) (.ite (.s 20) (.seq (R [cb 2 (.tk (.c (kb false)))] [2]) (.ret)) (.skip)))) (R [c0 8 (.mv (.s 3)), c0 9 (.bin .add .any (.s 8) (.c (ki .i64 1))), c0 3 (.tk (.s 9))] [0, 3])))))) (.seq (R [cb 2 (.tk (.c (kb true)))] [2]) (.ret)))
theorem fun40 : Fun Tryz.prog cfg 40 21 cd40 [.s 2] := ⟨rfl, Tryz.f40, _, Tryz.func40, rfl, rfl, by kernel_rfl, by kernel_rfl⟩
@[go_sem] theorem ok40 : calleeOK Tryz.prog 40 = true := by kernel_rfl
@[go_sem] theorem ex40 : (cfg.ext 40).isSome = false := rfl
def cd14 : Cd := .seq (R [c0 2 (.new false (.s 0)), c0 3 (.new false (.s 1)), cb 4 (.tk (.c (kb false)))] [2, 3]) (.seq (.seq (R [c0 5 (.tk (.c (ki .i64 0)))] [2, 3, 5]) (.block 0 (LP [2, 3, 5] (.seq (.seq (R [c0 6 (.mv (.s 5)), c0 7 (.mov 1 (.s 3)), c0 8 (.ld false 5 (.s 7)), c0 9 (.len 1 (.s 8)), cb 10 (.bin .lss .any (.s 6) (.s 9))] [2, 3, 5, 10]) (.ite (.s 10) (.skip) (.exit 0))) (.seq (.block 1 (.seq (RD (cd (some 13) false none (.mov 1 (.s 3)) false false [3] :: cd (some 14) false none (.ld false 5 (.s 13)) false false [13] :: cd (some 15) false none (.mv (.s 5)) false false [5] :: cd (some 16) false none (.ixp 3 (.s 14) (.s 15)) false false [14, 15] :: cd (some 17) false none (.ld true 3 (.s 16)) false false [16] :: cd (some 18) true none (.call none (.c (kf 39)) [(.s 17)]) false false [17] :: cd (some 19) true none (.un .not (.s 18)) false false [18] :: cd (some 20) true none (.mv (.s 19)) false false [19] :: cd (some 21) false (some (20, false)) (.mov 1 (.s 3)) false false [3] :: cd (some 22) false (some (20, false)) (.ld false 5 (.s 21)) false false [21] :: cd (some 23) false (some (20, false)) (.mv (.s 5)) false false [5] :: cd (some 24) false (some (20, false)) (.ixp 3 (.s 22) (.s 23)) false false [22, 23] :: cd (some 25) false (some (20, false)) (.ld true 3 (.s 24)) false false [24] :: cd (some 26) false (some (20, false)) (.ld true 3 (.s 2)) false false [2] :: cd (some 27) true (some (20, false)) (.bin .eql (.flat [0, 0, 0]) (.s 25) (.s 26)) false false [25, 26] :: cd (some 28) true none (.pick (.s 20) (.c (kb true)) (.s 27)) false false [20, 27] :: cd (some 29) true none (.mv (.s 28)) false false [28] :: cd (some 30) false (some (29, false)) (.mov 1 (.s 3)) false false [3] :: cd (some 31) false (some (29, false)) (.ld false 5 (.s 30)) false false [30] :: cd (some 32) false (some (29, false)) (.mv (.s 5)) false false [5] :: cd (some 33) false (some (29, false)) (.ixp 3 (.s 31) (.s 32)) false false [31, 32] :: cd (some 34) false (some (29, false)) (.mov 0 (.s 33)) false false [33] :: cd (some 35) false (some (29, false)) (.ld false 1 (.s 34)) false false [34] :: cd (some 36) false (some (29, false)) (.mov 0 (.s 2)) false false [2] :: cd (some 37) false (some (29, false)) (.ld false 1 (.s 36)) false false [36] :: cd (some 38) true (some (29, false)) (.bin .neq .any (.s 35) (.s 37)) false false [35, 37] :: cd (some 39) true none (.pick (.s 29) (.c (kb true)) (.s 38)) false false [29, 38] :: []) [2, 3, 5, 39] []) (.ite (.s 39) (.seq (R [cb 4 (.tk (.c (kb false)))] [2, 3, 4]) (.ret)) (.skip)))) (R [c0 11 (.mv (.s 5)), c0 12 (.bin .add .any (.s 11) (.c (ki .i64 1))), c0 5 (.tk (.s 12))] [2, 3, 5])))))) (.seq (R [c0 40 (.mov 0 (.s 3)), c0 41 (.ld false 1 (.s 40)), cb 42 (.bin .geq .any (.s 41) (.c (ki .i64 0))), cb 43 (.mv (.s 42)), cg 44 43 true (.mov 0 (.s 3)), cg 45 43 true (.ld false 1 (.s 44)), ch 46 43 true (.bin .leq .any (.s 45) (.c (ki .i64 1099511627776))), cb 47 (.pick (.s 43) (.s 46) (.c (kb false))), cb 48 (.mv (.s 47)), cg 49 48 true (.mov 1 (.s 3)), cg 50 48 true (.ld false 5 (.s 49)), cg 51 48 true (.len 1 (.s 50)), ch 52 48 true (.bin .leq .any (.s 51) (.c (ki .i64 1024))), cb 53 (.pick (.s 48) (.s 52) (.c (kb false))), cb 54 (.mv (.s 53)), cg 55 54 true (.mov 1 (.s 3)), cg 56 54 true (.ld false 5 (.s 55)), ch 57 54 true (.call none (.c (kf 40)) [(.s 56)]), cb 58 (.pick (.s 54) (.s 57) (.c (kb false))), cb 4 (.tk (.s 58))] [2, 3, 4]) (.ret)))
theorem fun14 : Fun Tryz.prog cfg 14 59 cd14 [.s 4] := ⟨rfl, Tryz.f14, _, Tryz.func14, rfl, rfl, by kernel_rfl, by kernel_rfl⟩
@[go_sem] theorem ok14 : calleeOK Tryz.prog 14 = true := by kernel_rfl
@[go_sem] theorem ex14 : (cfg.ext 14).isSome = false := rfl
def cd11 : Cd := .seq (R [c0 4 (.new false (.s 1)), c0 5 (.new false (.s 2)), c0 6 (.new false (.c (.agg [ki .i64 0, kn 3])))] [0, 4, 5, 6]) (.seq (R [c0 7 (.tk (.c (kn 3)))] [0, 4, 5, 6, 7]) (.seq (R [c0 8 (.tk (.c (ki .i64 0)))] [0, 4, 5, 6, 7, 8]) (.seq (.seq (R [c0 9 (.tk (.c (ki .i64 0)))] [0, 4, 5, 6, 7, 8, 9]) (.block 0 (LP [0, 4, 5, 6, 7, 8, 9] (.seq (.seq (R [c0 11 (.mv (.s 9)), c0 12 (.mv (.s 0)), c0 13 (.len 1 (.s 12)), cb 14 (.bin .lss .any (.s 11) (.s 13))] [0, 4, 5, 6, 7, 8, 9, 14]) (.ite (.s 14) (.skip) (.exit 0))) (.seq (.block 1 (.seq (RD [cd (some 17) false none (.mv (.s 0)) false false [0], cd (some 18) false none (.mv (.s 9)) false false [9], cd (some 19) false none (.ixp 13 (.s 17) (.s 18)) false false [17, 18], cd (some 20) false none (.mov 3 (.s 19)) false false [19], cd (some 21) false none (.ld true 8 (.s 20)) false false [20], cd (some 22) false none (.ld true 8 (.s 5)) false false [5], cd (some 23) true none (.call none (.c (kf 35)) [(.s 21), (.s 22)]) false false [21, 22], cd (some 10) true none (.mv (.s 23)) false false [23]] [0, 4, 5, 6, 7, 8, 9, 10] []) (.seq (RD (cd (some 24) false none (.mv (.s 0)) false false [0] :: cd (some 25) false none (.mv (.s 9)) false false [9] :: cd (some 26) false none (.ixp 13 (.s 24) (.s 25)) false false [24, 25] :: cd (some 27) false none (.mov 0 (.s 26)) false false [26] :: cd (some 28) false none (.ld true 3 (.s 27)) false false [27] :: cd (some 29) false none (.ld true 3 (.s 4)) false false [4] :: cd (some 30) true none (.bin .neq (.flat [0, 0, 0]) (.s 28) (.s 29)) false false [28, 29] :: cd (some 31) true none (.mv (.s 30)) false false [30] :: cd (some 32) false (some (31, true)) (.mv (.s 0)) false false [0] :: cd (some 33) false (some (31, true)) (.mv (.s 9)) false false [9] :: cd (some 34) false (some (31, true)) (.ixp 13 (.s 32) (.s 33)) false false [32, 33] :: cd (some 35) false (some (31, true)) (.mov 0 (.s 34)) false false [34] :: cd (some 36) false (some (31, true)) (.mov 0 (.s 35)) false false [35] :: cd (some 37) false (some (31, true)) (.ld false 1 (.s 36)) false false [36] :: cd (some 38) false (some (31, true)) (.mov 0 (.s 4)) false false [4] :: cd (some 39) false (some (31, true)) (.ld false 1 (.s 38)) false false [38] :: cd (some 40) true (some (31, true)) (.bin .eql .any (.s 37) (.s 39)) false false [37, 39] :: cd (some 41) true none (.pick (.s 31) (.s 40) (.c (kb false))) false false [31, 40] :: cd (some 42) true none (.mv (.s 41)) false false [41] :: cd (some 43) true (some (42, true)) (.mv (.s 10)) false false [10] :: cd (some 44) true none (.pick (.s 42) (.s 43) (.c (kb false))) false false [42, 43] :: []) [0, 4, 5, 6, 7, 8, 9, 44] []) (.ite (.s 44) (.seq (R [c0 45 (.tk (.s 7)), c0 46 (.mv (.s 0)), c0 47 (.mv (.s 9)), c0 48 (.ixp 13 (.s 46) (.s 47)), c0 49 (.mov 0 (.s 48)), c0 50 (.ld true 3 (.s 49)), c0 51 (.bsl 3 [(.s 50)]), c0 52 (.app 3 28 false (.s 45) (.s 51)), c0 7 (.tk (.s 52))] [0, 4, 5, 6, 7, 8, 9]) (R [c0 53 (.mv (.s 8)), c0 54 (.mv (.s 0)), c0 55 (.mv (.s 9)), c0 56 (.ixp 13 (.s 54) (.s 55)), c0 57 (.mov 11 (.s 56)), c0 58 (.mov 0 (.s 57)), c0 59 (.ld false 1 (.s 58)), c0 60 (.mm true (.s 53) (.s 59)), c0 8 (.tk (.s 60))] [0, 4, 5, 6, 7, 8, 9])) (.skip))))) (R [c0 15 (.mv (.s 9)), c0 16 (.bin .add .any (.s 15) (.c (ki .i64 1))), c0 9 (.tk (.s 16))] [0, 4, 5, 6, 7, 8, 9])))))) (.seq (R [c0 61 (.mv (.s 8)), c0 62 (.bin .add .any (.s 61) (.c (ki .i64 1))), c0 63 (.mv (.s 7)), c0 64 (.call none (.c (kf 36)) [(.s 63)]), c0 65 (.bld [ki .i64 0, kz 3] [(0, 1, (.s 62)), (1, 1, (.s 64))]), cn (.st 2 (.s 6) (.s 65))] [4, 5, 6]) (.ret)))))
theorem fun11 : Fun Tryz.prog cfg 11 66 cd11 [.b 6 true 2] := ⟨rfl, Tryz.f11, _, Tryz.func11, rfl, rfl, by kernel_rfl, by kernel_rfl⟩
@[go_sem] theorem ok11 : calleeOK Tryz.prog 11 = true := by kernel_rfl
@[go_sem] theorem ex11 : (cfg.ext 11).isSome = false := rfl
variable {h : DHeap}
theorem rlessD_lim (a b : Id) : lim Tryz.prog cfg 76 [.agg [vi a.e, vi a.n, vi a.k], .agg [vi b.e, vi b.n, vi b.k]] h = some (vb (lessI a b), h) := by
  refine lim_funp fun76 rfl (by simp) rfl rfl ?_
  delta cd76
  rw [lessI_eq]
  by_cases h1 : a.e = b.e
  · by_cases h2 : a.k = b.k
    · rw [if_pos h1, if_pos h2]
      simp -implicitDefEqProofs -dsimp only [go_sem, eq_true h1, eq_true h2] <;> simp
    · rw [if_pos h1, if_neg h2]
      simp -implicitDefEqProofs -dsimp only [go_sem, eq_true h1, eq_false h2] <;> simp
  · rw [if_neg h1]
    simp -implicitDefEqProofs -dsimp only [go_sem, eq_false h1] <;> simp
theorem rvalidD_lim (x : Id) : lim Tryz.prog cfg 39 [.agg [vi x.e, vi x.n, vi x.k]] h = some (vb (validI x), h) := by
  refine lim_funp fun39 rfl (by simp) rfl rfl ?_
  delta cd39
  unfold validI
  by_cases c1 : 0 ≤ x.e
  case neg => simp -implicitDefEqProofs -dsimp only [go_sem, c1] <;> simp [c1]
  by_cases c2 : x.e ≤ 1048576
  case neg => simp -implicitDefEqProofs -dsimp only [go_sem, c1, c2] <;> simp [c2]
  by_cases c3 : 0 ≤ x.n
  case neg => simp -implicitDefEqProofs -dsimp only [go_sem, c1, c2, c3] <;> simp [c3]
  by_cases c4 : x.n ≤ 31
  case neg => simp -implicitDefEqProofs -dsimp only [go_sem, c1, c2, c3, c4] <;> simp [c4]
  by_cases c5 : 0 ≤ x.k
  case neg => simp -implicitDefEqProofs -dsimp only [go_sem, c1, c2, c3, c4, c5] <;> simp [c5]
  by_cases c6 : x.k ≤ 1099511627776
  case neg => simp -implicitDefEqProofs -dsimp only [go_sem, c1, c2, c3, c4, c5, c6] <;> simp [c6]
  simp -implicitDefEqProofs -dsimp only [go_sem, c1, c2, c3, c4, c5, c6] <;> simp
theorem rhasD_lim (own : Bool) (l : List Id) (x : Id) (hl : l.length ≤ 1099511627776) :
    lim Tryz.prog cfg 103 [.list own 3 (idr l), .agg [vi x.e, vi x.n, vi x.k]] h = some (vb (decide (x ∈ l)), h) := by
  refine lim_funp fun103 rfl (by simp) (by simp [heapFree, heapFree.all, free_idr]) rfl ?_
  delta cd103
  simp -implicitDefEqProofs -dsimp only [go_sem]
  refine wp_for (σ := Nat) (fun k => [(0, .list false 3 (idr l)), (3, .box [vi x.e, vi x.n, vi x.k]), (5, vi (k : Nat))]) (fun _ => []) (fun k => l.length - k) (fun k => k ≤ l.length ∧ ∀ j (hj : j < l.length), j < k → l[j] ≠ x) 0 (by simp) rfl rfl ?_
  rintro k ⟨hk, hj⟩ N hN
  by_cases hlt : k < l.length
  · have h1 : ((k : Int) < (l.length : Int)) := by omega
    by_cases hc : l[k] = x
    · have e : x ∈ l := by rw [← hc]; exact List.getElem_mem hlt
      rw [decide_eq_true e]
      simp -implicitDefEqProofs -dsimp only [go_sem, wp_RD, h1, hlt, eq_true hc]
    · simp -implicitDefEqProofs -dsimp only [go_sem, wp_RD, h1, hlt, eq_false hc]
      refine hN (k + 1) _ (by omega) ⟨by omega, fun j hj1 hj2 => ?_⟩ ?_
      · by_cases e : j = k
        · subst e; exact hc
        · exact hj j hj1 (by omega)
      · simp -implicitDefEqProofs -dsimp only [go_sem, wrap_succ (show k < 9223372036854775807 by omega)]
  · have h1 : ¬ ((k : Int) < (l.length : Int)) := by omega
    have e : ¬ x ∈ l := fun hx => by
      obtain ⟨j, hj1, e⟩ := List.getElem_of_mem hx
      exact hj j hj1 (by omega) e
    rw [decide_eq_false e]
    simp -implicitDefEqProofs -dsimp only [go_sem, h1]
theorem szI {n : Nat} (h : n ≤ 2000000) : (n + 1) * 28 ≤ maxLenD ∧ (n + 1 + 1) * 28 ≤ maxLenD := by unfold maxLenD; omega
set_option maxHeartbeats 2000000 in
theorem rput_lim (own : Bool) (l : List Id) (x : Id) (hl : l.length ≤ 1000000) (hr : Rises l) :
    lim Tryz.prog cfg 73 [.list own 3 (idr l), .agg [vi x.e, vi x.n, vi x.k]] h = some (.list (!decide (x ∈ l)) 3 (idr (putP l x)), h) := by
  have e1 := rhasD_lim (h := []) false l x (by omega)
  by_cases hx : x ∈ l
  · rw [decide_eq_true hx] at e1
    have ep : putP l x = l := by unfold putP; rw [if_pos hx]
    rw [ep, decide_eq_true hx]
    refine lim_funp fun73 rfl (by simp) (by simp [heapFree, heapFree.all, free_idr]) (by simp [heapFree, heapFree.all, free_idr]) ?_
    delta cd73
    simp -implicitDefEqProofs -dsimp only [go_sem, e1]
  rw [decide_eq_false hx] at e1
  rw [← setI_put hr hx, decide_eq_false hx]
  refine lim_funp fun73 rfl (by simp) (by simp [heapFree, heapFree.all, free_idr]) (by simp [heapFree, heapFree.all, free_idr]) ?_
  delta cd73
  simp -implicitDefEqProofs -dsimp only [go_sem, e1]
  refine wp_for (σ := Nat) (fun k => [(0, .list false 3 (idr l)), (3, .box [vi x.e, vi x.n, vi x.k]), (5, .list true 3 (idr ((l.take k).foldl (stepI x) ([], false)).1)), (6, vb ((l.take k).foldl (stepI x) ([], false)).2), (7, vi (k : Nat))]) (fun _ => []) (fun k => l.length - k) (fun k => k ≤ l.length) 0 (by simp) rfl rfl ?_
  rintro k hk N hN
  have sl : ((l.take k).foldl (stepI x) ([], false)).1.length ≤ 2000000 := by
    have := foldStep_len x (l.take k) ([], false)
    rw [List.length_take] at this
    simp only [List.length_nil] at this
    omega
  by_cases hlt : k < l.length
  · have h1 : ((k : Int) < (l.length : Int)) := by omega
    have ss := step_snoc x hlt
    have hne : l[k] ≠ x := fun e => hx (by rw [← e]; exact List.getElem_mem hlt)
    have e2 := rlessD_lim (h := []) x l[k]
    have N2 := hN (k + 1)
    rw [ss] at N2
    clear hN
    generalize (l.take k).foldl (stepI x) ([], false) = s at *
    obtain ⟨m, d⟩ := s
    dsimp only at sl
    obtain ⟨hm1, hm2⟩ := szI sl
    cases d with
    | true =>
      have es : stepI x (m, true) l[k] = (m ++ [l[k]], true) := by simp [stepI, hne]
      rw [es] at N2
      simp -implicitDefEqProofs -dsimp only [go_sem, wp_RD, h1, hlt, hm1]
      refine N2 _ (by omega) (by omega) ?_
      simp -implicitDefEqProofs -dsimp only [go_sem, wrap_succ (show k < 9223372036854775807 by omega)]
    | false =>
      cases c : lessI x l[k] with
      | true =>
        rw [c] at e2
        have es : stepI x (m, false) l[k] = (m ++ [x] ++ [l[k]], true) := by simp [stepI, hne, c]
        rw [es] at N2
        have hm3 : ((m ++ [({ e := x.e, n := x.n, k := x.k } : Id)]).length + 1) * 28 ≤ maxLenD := by rw [List.length_append]; exact hm2
        simp -implicitDefEqProofs -dsimp only [go_sem, wp_RD, h1, hlt, hm1, hm3, e2]
        refine N2 _ (by omega) (by omega) ?_
        simp -implicitDefEqProofs -dsimp only [go_sem, wrap_succ (show k < 9223372036854775807 by omega)]
      | false =>
        rw [c] at e2
        have es : stepI x (m, false) l[k] = (m ++ [l[k]], false) := by simp [stepI, hne, c]
        rw [es] at N2
        simp -implicitDefEqProofs -dsimp only [go_sem, wp_RD, h1, hlt, hm1, hm2, e2]
        refine N2 _ (by omega) (by omega) ?_
        simp -implicitDefEqProofs -dsimp only [go_sem, wrap_succ (show k < 9223372036854775807 by omega)]
  · have h1 : ¬ ((k : Int) < (l.length : Int)) := by omega
    rw [List.take_of_length_le (by omega)] at *
    unfold setI
    clear hN
    generalize l.foldl (stepI x) ([], false) = s at *
    obtain ⟨m, d⟩ := s
    dsimp only at sl
    obtain ⟨hm1, hm2⟩ := szI sl
    cases d with
    | true => simp -implicitDefEqProofs -dsimp only [go_sem, h1, if_true]
    | false => simp -implicitDefEqProofs -dsimp only [go_sem, h1, hm1, Bool.false_eq_true, if_false]
/-- Is the row that the reference cleans its own one? -/
def stepC (s : List Id × Bool) (x : Id) : List Id × Bool := (putP s.1 x, !decide (x ∈ s.1))
def ownC (l : List Id) : Bool := (l.foldl stepC ([], true)).2
theorem stepC_fst (l : List Id) (s : List Id × Bool) : (l.foldl stepC s).1 = l.foldl putP s.1 := by
  induction l generalizing s with
  | nil => rfl
  | cons x l ih => exact ih _
set_option maxHeartbeats 1000000 in
theorem rclean_lim (own : Bool) (l : List Id) (hl : l.length ≤ 1000000) : lim Tryz.prog cfg 36 [.list own 3 (idr l)] h = some (.list (ownC l) 3 (idr (cleanP l)), h) := by
  have ec : cleanP l = (l.foldl stepC ([], true)).1 := by rw [stepC_fst, ← rclean_eq]; rfl
  rw [ec]
  unfold ownC
  refine lim_funp fun36 rfl (by simp) (by simp [heapFree, heapFree.all, free_idr]) (by simp [heapFree, heapFree.all, free_idr]) ?_
  delta cd36
  simp -implicitDefEqProofs -dsimp only [go_sem]
  refine wp_for (σ := Nat) (fun k => [(0, .list false 3 (idr l)), (3, .list ((l.take k).foldl stepC ([], true)).2 3 (idr ((l.take k).foldl stepC ([], true)).1)), (4, vi (k : Nat))]) (fun _ => []) (fun k => l.length - k) (fun k => k ≤ l.length) 0 (by simp) rfl rfl ?_
  rintro k hk N hN
  by_cases hlt : k < l.length
  · have h1 : ((k : Int) < (l.length : Int)) := by omega
    have sl := rcleanT_len l k
    have sr := rclean_take l k
    rw [← stepC_fst (l.take k) ([], true)] at sl sr
    have es : (l.take (k + 1)).foldl stepC ([], true) = stepC ((l.take k).foldl stepC ([], true)) l[k] := by rw [List.take_succ_eq_append_getElem hlt, List.foldl_append]; rfl
    have N2 := hN (k + 1)
    rw [es] at N2
    clear hN es
    generalize (l.take k).foldl stepC ([], true) = s at *
    obtain ⟨m, o⟩ := s
    have e1 := rput_lim (h := []) false m l[k] (by dsimp only at sl; omega) sr
    simp only [stepC] at N2
    generalize (!decide (l[k] ∈ m)) = o2 at *
    cases o <;> cases o2
    all_goals
      simp -implicitDefEqProofs -dsimp only [go_sem, h1, hlt, e1]
      refine N2 _ (by omega) (by omega) ?_
      simp -implicitDefEqProofs -dsimp only [go_sem, wrap_succ (show k < 9223372036854775807 by omega)]
  · have h1 : ¬ ((k : Int) < (l.length : Int)) := by omega
    rw [List.take_of_length_le (by omega)]
    clear hN
    generalize l.foldl stepC ([], true) = s at *
    obtain ⟨m, o⟩ := s
    cases o <;> simp -implicitDefEqProofs -dsimp only [go_sem, h1]
theorem rright_lim (own : Bool) (l : List Id) (hl : l.length ≤ 1099511627776) : lim Tryz.prog cfg 40 [.list own 3 (idr l)] h = some (vb (rightI l), h) := by
  refine lim_funp fun40 rfl (by simp) (by simp [heapFree, free_idr]) rfl ?_
  delta cd40
  simp -implicitDefEqProofs -dsimp only [go_sem]
  refine wp_for (σ := Nat) (fun k => [(0, .list false 3 (idr l)), (3, vi ((k + 1 : Nat) : Int))]) (fun _ => []) (fun k => l.length - k) (fun k => k ≤ l.length - 1 ∧ ∀ i (h : i + 1 < l.length), i < k → lessI (l[i]'(by omega)) l[i + 1] = true) 0 (by simp) rfl rfl ?_
  rintro k ⟨hk, hb⟩ N hN
  by_cases hlt : k + 1 < l.length
  · have h1 : (((k + 1 : Nat) : Int) < (l.length : Int)) := by omega
    have i1 : k < l.length := by omega
    have e1 := rlessD_lim (h := []) l[k] l[k + 1]
    have w3 : IntKind.wrap .i64 (((k + 1 : Nat) : Int) - 1) = (k : Int) := by
      have : ((k + 1 : Nat) : Int) - 1 = (k : Int) := by omega
      rw [this]
      exact wrap64 (by omega) (by omega)
    cases hc : lessI l[k] l[k + 1] with
    | true =>
      rw [hc] at e1
      simp -implicitDefEqProofs -dsimp only [go_sem, wp_RD, h1, i1, hlt, w3, e1]
      refine hN (k + 1) _ (by omega) ⟨by omega, fun i hi hik => ?_⟩ ?_
      · by_cases e : i = k
        · subst e; exact hc
        · exact hb i hi (by omega)
      · simp -implicitDefEqProofs -dsimp only [go_sem, wrap_succ (show k + 1 < 9223372036854775807 by omega)]
    | false =>
      rw [hc] at e1
      have hr : rightI l = false := by
        rw [Bool.eq_false_iff]
        intro e
        rw [rightI_of] at e
        rw [e k hlt] at hc
        cases hc
      rw [hr]
      simp -implicitDefEqProofs -dsimp only [go_sem, wp_RD, h1, i1, hlt, w3, e1]
  · have h1 : ¬ (((k + 1 : Nat) : Int) < (l.length : Int)) := by omega
    have hr : rightI l = true := (rightI_of l).2 fun i hi => hb i hi (by omega)
    rw [hr]
    simp -implicitDefEqProofs -dsimp only [go_sem, h1]
theorem idr_at {l : List Id} {k : Nat} (hk : k < l.length) (N : List DV → Prop) : IdxP (idr l) (Nf (k : Int)) N = N [vi l[k].e, vi l[k].n, vi l[k].k] := by
  show IdxP (idr l) (k : Int) N = _
  rw [idxP_idr]
  simp [IdxP, hk]
theorem knr_at {l : List Kno} {k : Nat} (hk : k < l.length) (N : List DV → Prop) : IdxP (kns l) (Nf (k : Int)) N = N [vi l[k].id.e, vi l[k].id.n, vi l[k].id.k, vi l[k].cmd.client, vi l[k].cmd.seq, vi l[k].cmd.op, vs l[k].cmd.path, vs l[k].cmd.value, vi l[k].cmd.version, vi l[k].cmd.a, vi l[k].cmd.b, vi l[k].att.seq, .list false 3 (idr l[k].att.deps)] := by
  show IdxP (kns l) (k : Int) N = _
  rw [idxP_kns]
  simp [IdxP, hk]
set_option maxHeartbeats 2000000 in
theorem rvalidA_lim (id : Id) (a : Att) (hl : a.deps.length ≤ 1099511627776) : lim Tryz.prog cfg 14 [.agg [vi id.e, vi id.n, vi id.k], attD a] h = some (vb (validA id a), h) := by
  refine lim_funp fun14 rfl (by simp) (by simp [heapFree, heapFree.all, free_idr]) rfl ?_
  delta cd14
  rw [validA_eq]
  obtain ⟨seq, deps⟩ := a
  dsimp only at hl ⊢
  simp -implicitDefEqProofs -dsimp only [go_sem]
  refine wp_for (σ := Nat) (fun k => [(2, .box [vi id.e, vi id.n, vi id.k]), (3, .box [vi seq, .list false 3 (idr deps)]), (5, vi (k : Nat))]) (fun _ => []) (fun k => deps.length - k) (fun k => k ≤ deps.length ∧ ∀ j (hj : j < deps.length), j < k → depOK id deps[j] = true) 0 (by simp) rfl rfl ?_
  rintro k ⟨hk, hj⟩ N hN
  by_cases hlt : k < deps.length
  · have h1 : ((k : Int) < (deps.length : Int)) := by omega
    have e1 := rvalidD_lim (h := []) deps[k]
    have q := fun N => idr_at hlt N
    have no : depOK id deps[k] = false → deps.all (depOK id) = false := fun hd => by
      rw [Bool.eq_false_iff]
      intro q
      rw [List.all_eq_true] at q
      rw [q _ (List.getElem_mem hlt)] at hd
      cases hd
    cases c3 : validI deps[k] with
    | false =>
      rw [c3] at e1
      have hd : depOK id deps[k] = false := by simp [depOK, c3]
      simp -implicitDefEqProofs -dsimp only [go_sem, ↓q, wp_RD, postC_path2, Nat.reduceDiv, h1, e1, no hd]
      rfl
    | true =>
    rw [c3] at e1
    by_cases c1 : deps[k] = id
    · have hd : depOK id deps[k] = false := by simp [depOK, c1]
      simp -implicitDefEqProofs -dsimp only [go_sem, ↓q, wp_RD, postC_path2, Nat.reduceDiv, h1, e1, eq_true c1, no hd]
      rfl
    by_cases c2 : deps[k].e = id.e
    · have hd : depOK id deps[k] = true := by simp [depOK, c1, c2, c3]
      simp -implicitDefEqProofs -dsimp only [go_sem, ↓q, wp_RD, postC_path2, Nat.reduceDiv, h1, eq_false c1, eq_true c2, e1]
      refine hN (k + 1) _ (by omega) ⟨by omega, fun j hj1 hj2 => ?_⟩ ?_
      · by_cases e : j = k
        · subst e; exact hd
        · exact hj j hj1 (by omega)
      · simp -implicitDefEqProofs -dsimp only [go_sem, wrap_succ (show k < 9223372036854775807 by omega)]
    · have hd : depOK id deps[k] = false := by simp [depOK, c2]
      simp -implicitDefEqProofs -dsimp only [go_sem, ↓q, wp_RD, postC_path2, Nat.reduceDiv, h1, e1, eq_false c1, eq_false c2, no hd]
      rfl
  · have h1 : ¬ ((k : Int) < (deps.length : Int)) := by omega
    have hall : deps.all (depOK id) = true := by
      rw [List.all_eq_true]
      intro x hx
      obtain ⟨j, hj1, rfl⟩ := List.getElem_of_mem hx
      exact hj j hj1 (by omega)
    have e2 := rright_lim (h := []) false deps hl
    rw [hall]
    by_cases c1 : 0 ≤ seq
    · by_cases c2 : seq ≤ 1099511627776
      · by_cases c3 : deps.length ≤ 1024
        · have c3' : (deps.length : Int) ≤ 1024 := by omega
          cases c4 : rightI deps <;> rw [c4] at e2 <;> simp -implicitDefEqProofs -dsimp only [go_sem, h1, c1, c2, c3, c3', e2] <;> simp [c1, c2, c3]
        · have c3' : ¬ (deps.length : Int) ≤ 1024 := by omega
          simp -implicitDefEqProofs -dsimp only [go_sem, h1, c1, c2, c3, c3', e2] <;> simp [c1, c2, c3]
      · simp -implicitDefEqProofs -dsimp only [go_sem, h1, c1, c2, e2] <;> simp [c1, c2]
    · simp -implicitDefEqProofs -dsimp only [go_sem, h1, c1, e2] <;> simp [c1]
/-- What the reference found so far. -/
def localN (l : List Kno) (id : Id) (c : Cmd) (k : Nat) : List Id × Int := (((l.take k).filter (matters id c)).map (·.id), ((l.take k).filter (matters id c)).foldl (fun n x => max n x.att.seq) 0)
theorem localN_succ (l : List Kno) (id : Id) (c : Cmd) (k : Nat) (hk : k < l.length) : localN l id c (k + 1) = if matters id c l[k] then ((localN l id c k).1 ++ [l[k].id], max (localN l id c k).2 l[k].att.seq) else localN l id c k := by
  unfold localN
  rw [List.take_succ_eq_append_getElem hk, List.filter_append]
  cases hm : matters id c l[k] <;> simp [hm]
theorem localN_len (l : List Kno) (id : Id) (c : Cmd) (k : Nat) : (localN l id c k).1.length ≤ k := by
  unfold localN
  rw [List.length_map]
  exact Nat.le_trans (List.length_filter_le ..) (by rw [List.length_take]; omega)
set_option maxHeartbeats 4000000 in
theorem rlocal_lim (own : Bool) (l : List Kno) (id : Id) (c : Cmd) (hl : l.length ≤ 1000000) (hs : ∀ x ∈ l, x.cmd.path.length ≤ 1048575 ∧ x.att.seq ≤ 4611686018427387904) (hc : c.path.length ≤ 1048575) :
    lim Tryz.prog cfg 11 [.list own 13 (kns l), .agg [vi id.e, vi id.n, vi id.k], cmdD c] h = some (attD (localP l id c), h) := by
  refine lim_funp fun11 rfl (by simp) (by simp [heapFree, heapFree.all, free_kns]) (by simp [heapFree, heapFree.all, free_idr]) ?_
  delta cd11
  simp -implicitDefEqProofs -dsimp only [go_sem]
  refine wp_for (σ := Nat) (fun k => [(0, .list false 13 (kns l)), (4, .box [vi id.e, vi id.n, vi id.k]), (5, .box (cmdL c)), (6, .box [vi 0, .list false 3 []]), (7, .list true 3 (idr (localN l id c k).1)), (8, vi (localN l id c k).2), (9, vi (k : Nat))]) (fun _ => []) (fun k => l.length - k) (fun k => k ≤ l.length) 0 (by simp) rfl rfl ?_
  rintro k hk N hN
  have sl := localN_len l id c k
  have sm : ((localN l id c k).1.length + 1) * 28 ≤ maxLenD := by unfold maxLenD; omega
  by_cases hlt : k < l.length
  · have h1 : ((k : Int) < (l.length : Int)) := by omega
    obtain ⟨p1, p2⟩ := hs _ (List.getElem_mem hlt)
    have q' := fun N => knr_at hlt N
    have e1 := rboth_lim (h := []) l[k].cmd c p1 hc
    have es := localN_succ l id c k hlt
    have N2 := hN (k + 1)
    rw [es] at N2
    clear hN es sl
    generalize localN l id c k = s at *
    obtain ⟨m, q⟩ := s
    have hm : matters id c l[k] = (decide (l[k].id ≠ id) && decide (l[k].id.e = id.e) && bothB l[k].cmd c) := rfl
    have finish : matters id c l[k] = false → ∀ a', keepA (some [0, 4, 5, 6, 7, 8, 9]) a' = [(0, .list false 13 (kns l)), (4, .box [vi id.e, vi id.n, vi id.k]), (5, .box (cmdL c)), (6, .box [vi 0, .list false 3 []]), (7, .list true 3 (idr m)), (8, vi q), (9, vi ((k + 1 : Nat) : Int))] → N a' [] := fun hf a' ha => by
      rw [hf] at N2
      exact N2 a' (by omega) (by omega) ha
    cases c3 : bothB l[k].cmd c with
    | false =>
      rw [c3] at e1 hm
      have hf : matters id c l[k] = false := by rw [hm]; simp
      by_cases c1 : l[k].id = id
      · simp -implicitDefEqProofs -dsimp only [go_sem, ↓q', wp_RD, h1, e1, eq_true c1]
        exact finish hf _ (by simp -implicitDefEqProofs -dsimp only [go_sem, wrap_succ (show k < 9223372036854775807 by omega)])
      by_cases c2 : l[k].id.e = id.e
      · simp -implicitDefEqProofs -dsimp only [go_sem, ↓q', wp_RD, h1, e1, eq_false c1, eq_true c2]
        exact finish hf _ (by simp -implicitDefEqProofs -dsimp only [go_sem, wrap_succ (show k < 9223372036854775807 by omega)])
      · simp -implicitDefEqProofs -dsimp only [go_sem, ↓q', wp_RD, h1, e1, eq_false c1, eq_false c2]
        exact finish hf _ (by simp -implicitDefEqProofs -dsimp only [go_sem, wrap_succ (show k < 9223372036854775807 by omega)])
    | true =>
      rw [c3] at e1 hm
      by_cases c1 : l[k].id = id
      · have hf : matters id c l[k] = false := by rw [hm]; simp [c1]
        simp -implicitDefEqProofs -dsimp only [go_sem, ↓q', wp_RD, h1, e1, eq_true c1]
        exact finish hf _ (by simp -implicitDefEqProofs -dsimp only [go_sem, wrap_succ (show k < 9223372036854775807 by omega)])
      by_cases c2 : l[k].id.e = id.e
      · have hf : matters id c l[k] = true := by rw [hm]; simp [c1, c2]
        rw [hf] at N2
        simp only [if_true] at N2
        simp -implicitDefEqProofs -dsimp only [go_sem, ↓q', wp_RD, h1, e1, eq_false c1, eq_true c2, sm, mmI_max]
        refine N2 _ (by omega) (by omega) ?_
        simp -implicitDefEqProofs -dsimp only [go_sem, wrap_succ (show k < 9223372036854775807 by omega)]
      · have hf : matters id c l[k] = false := by rw [hm]; simp [c2]
        simp -implicitDefEqProofs -dsimp only [go_sem, ↓q', wp_RD, h1, e1, eq_false c1, eq_false c2]
        exact finish hf _ (by simp -implicitDefEqProofs -dsimp only [go_sem, wrap_succ (show k < 9223372036854775807 by omega)])
  · have h1 : ¬ ((k : Int) < (l.length : Int)) := by omega
    have el : localP l id c = ⟨(localN l id c k).2 + 1, cleanP (localN l id c k).1⟩ := by unfold localP localN; rw [List.take_of_length_le (by omega)]
    have g1 := (foldl_max_ge ((l.take k).filter (matters id c)) 0).1
    have g2 := foldl_max_le ((l.take k).filter (matters id c)) 0 4611686018427387904 (by omega) fun x hx => (hs x (List.mem_of_mem_take (List.mem_filter.1 hx).1)).2
    have e2 := fun o => rclean_lim (h := []) o (localN l id c k).1 (by omega)
    rw [el]
    have w : IntKind.wrap .i64 ((localN l id c k).2 + 1) = (localN l id c k).2 + 1 := wrap64 (by unfold localN; dsimp only; omega) (by unfold localN; dsimp only; omega)
    clear hN el sm sl
    generalize localN l id c k = s at *
    obtain ⟨m, q⟩ := s
    dsimp only at e2 w
    cases ho : ownC m <;> simp only [ho] at e2 <;> simp -implicitDefEqProofs -dsimp only [go_sem, h1, e2, w]
end Go.DS

/-
  Arguments, opened: lists of texts.
-/
namespace Go.DS
open Go Go.Proofs Go.ChangeShapes Go.WideShapes Go.RowKit Go.Proofs.YtpbknejlalkfjaaGreat Go.Deep
set_option linter.unusedVariables false
set_option linter.unusedSimpArgs false

theorem own' : ownKnob Tryz.prog.godebug = none := by kernel_rfl
theorem laidOut' : laidOutB Tryz.prog = true := by kernel_rfl
theorem bulk_get {H : Type} : ∀ {l : List (DataW H)} {d : DataW H}, d ∈ l → Rows.uptoBulk d ≤ Rows.uptoBulkAll l
  | x :: l, d, h => by
    simp only [Rows.uptoBulkAll]
    rcases List.mem_cons.1 h with rfl | h
    · omega
    · have := bulk_get h; omega
theorem bulk_pos {H : Type} (d : DataW H) : 1 ≤ Rows.uptoBulk d := by
  cases d <;> try (simp [Rows.uptoBulk]; done)
  rename_i l; cases l <;> simp [Rows.uptoBulk]
theorem bulk_len {H : Type} : ∀ (l : List (DataW H)), l.length ≤ Rows.uptoBulkAll l
  | [] => Nat.le_refl _
  | d :: l => by
    have := bulk_len l
    have := bulk_pos d
    simp only [Rows.uptoBulkAll, List.length_cons]; omega

theorem strs_rel {H : Type} {enc : TypeId × Value → H} {P : Program} {W : World} {held : Bool} {t e : TypeId} {a : Option Addr} {len cap : Nat} {d : DataW H} {ps : List MemPlace} (ht : P.underlying t = some (.slice e)) (he : P.underlying e = some .string) (hc : P.cellsOf e = 1)
    (h : DataW.Trod enc P W 0 (fun _ => true) held t (.slice a len cap) d ps) :
    ∃ l : List Str, RelV (gh0 W) (.list false 1 (ts l)) (.slice a len cap) ∧ l.length < Rows.uptoBulk d ∧ ∀ s ∈ l, s.length < Rows.uptoBulk d := by
  obtain ⟨fuel, hf⟩ := h
  rcases open_strs ht he hc hf with ⟨hcs, hx⟩ | ⟨ad, len', cap', m, Sx, hcs, _, hl, hm, hmm, hx, hcell⟩
  · simp [Value.cells] at hcs
    obtain ⟨rfl, rfl, rfl⟩ := hcs
    refine ⟨[], .empty, ?_, by simp⟩
    exact bulk_pos d
  · simp [Value.cells] at hcs
    obtain ⟨rfl, rfl, rfl⟩ := hcs
    have hlm : len ≤ m := by rw [hmm]; simp; exact hl
    have hd : d = .slice ((List.range len).map fun i => .lit (.string (Sx i).data.toList)) ((List.range (m - len)).map fun j => .lit (.string (Sx (len + j)).data.toList)) := by
      simpa using congrArg Prod.fst hx
    refine ⟨(List.range len).map fun i => bs (Sx i), ?_, ?_, ?_⟩
    · have hts : ts ((List.range len).map fun i => bs (Sx i)) = (List.range len).map fun i => [DV.sc (.string (Sx i))] := by
        simp only [ts, List.map_map]; rfl
      have hfl : ((List.range len).map fun i => [DV.sc (.string (Sx i))]).flatten = (List.range len).map fun i => DV.sc (.string (Sx i)) := by
        generalize List.range len = r
        induction r with
        | nil => rfl
        | cons x r ih => simp only [List.map_cons, List.flatten_cons, ih]; rfl
      have hlen : ((List.range len).map fun i => [DV.sc (.string (Sx i))]).length = len := by simp
      obtain ⟨b, off, g⟩ := ad
      show RelV (gh0 W) (.list false 1 (ts _)) _
      rw [hts]
      by_cases hz : len = 0
      · subst hz
        exact .empty
      · have hgn : g = none := by
          have := (hcell 0 (by omega)).1
          cases g with
          | none => rfl
          | some _ =>
            simp [World.cell?, Addr.add] at this
            split at this <;> simp at this
        subst hgn
        have hg : ∀ i, i < m → W.cell? ⟨b, off + i, none⟩ = some (.string (Sx i)) := fun i hi => by
          have := (hcell i hi).1
          by_cases hi0 : i = 0
          · subst hi0; simpa [Addr.add] using this
          · simpa [Addr.add, hi0] using this
        have := RelV.list (g := gh0 W) (own := false) (es := 1) (l := (List.range len).map fun i => [DV.sc (.string (Sx i))]) (cap := cap) (b := b) (off := off) (vs := (List.range len).map fun i => Value.string (Sx i)) (by simpa using hl) (by simp)
          (by rw [hfl]; simp) (by
            rw [hfl]
            intro k x v hx hv
            rw [List.getElem?_map] at hx hv
            cases hr : (List.range len)[k]? with
            | none => rw [hr] at hx; cases hx
            | some i => rw [hr] at hx hv; cases hx; cases hv; exact .sc _) (by
            intro k v hv
            rw [List.getElem?_map] at hv
            cases hr : (List.range len)[k]? with
            | none => rw [hr] at hv; cases hv
            | some i =>
              rw [hr] at hv; cases hv
              obtain ⟨hk, rfl⟩ := List.getElem?_eq_some_iff.1 hr
              simp only [List.getElem_range]
              simp only [List.length_range] at hk
              exact gh0_pc (hg k (by omega)) rfl)
        rwa [hlen] at this
    · rw [hd]
      have := bulk_len ((List.range len).map fun i => (DataW.lit (.string (Sx i).data.toList) : DataW H))
      simp only [Rows.uptoBulk, List.length_map, List.length_range] at this ⊢
      omega
    · intro s hs
      obtain ⟨i, hi, rfl⟩ := List.mem_map.1 hs
      have := bulk_get (H := H) (List.mem_map_of_mem (f := fun i => (DataW.lit (.string (Sx i).data.toList) : DataW H)) hi)
      rw [hd]
      simp only [Rows.uptoBulk] at this ⊢
      show (Sx i).data.toList.length < _
      omega
end Go.DS

/-
  Arguments of any plain type, opened: texts, numbers, truth values, slices and structs of them.
-/
namespace Go.DS
open Go Go.Proofs Go.ChangeShapes Go.WideShapes Go.RowKit Go.Proofs.YtpbknejlalkfjaaGreat Go.Deep
set_option linter.unusedVariables false
set_option linter.unusedSimpArgs false

/-- Fields, one behind the other. -/
def tilesB (P : Program) : List Field → Nat → Nat → Bool
  | [], k, m => k == m
  | f :: fs, k, m => f.offset == k && tilesB P fs (k + P.cellsOf f.type) m
/-- Types of plain data. -/
def plainTy (P : Program) : Nat → TypeId → Bool
  | 0, _ => false
  | n + 1, t => match P.underlying t with
    | some .bool => P.cellsOf t == 1
    | some (.int _) => P.cellsOf t == 1
    | some .string => P.cellsOf t == 1
    | some (.slice e) => P.cellsOf t == 1 && decide (0 < P.cellsOf e) && plainTy P n e
    | some (.struct fs) => tilesB P fs.toList 0 (P.cellsOf t) && fs.toList.all fun f => plainTy P n f.type
    | _ => false
/-- What clean cells of plain data look like. -/
def Sh (P : Program) (B : Nat) : Nat → TypeId → List DV → Prop
  | 0, _, _ => False
  | n + 1, t, ds => match P.underlying t with
    | some .bool => ∃ b, ds = [.sc (.bool b)]
    | some (.int k) => ∃ m, ds = [.sc (.int k m)] ∧ k.min ≤ m ∧ m ≤ k.max
    | some .string => ∃ s, ds = [.sc (.string (mkB s))] ∧ s.length ≤ B
    | some (.slice e) => ∃ l, ds = [.list false (P.cellsOf e) l] ∧ l.length ≤ B ∧ ∀ r ∈ l, Sh P B n e r
    | some (.struct fs) => ds.length = P.cellsOf t ∧ ∀ (i : Nat) (f : Field), fs[i]? = some f → Sh P B n f.type ((ds.drop f.offset).take (P.cellsOf f.type))
    | _ => False
theorem sh_int {P : Program} {B n : Nat} {t : TypeId} {k : IntKind} {ds : List DV} (ht : P.underlying t = some (.int k)) (h : Sh P B (n + 1) t ds) : ∃ m, ds = [.sc (.int k m)] ∧ k.min ≤ m ∧ m ≤ k.max := by
  unfold Sh at h; rw [ht] at h; exact h
theorem sh_bool {P : Program} {B n : Nat} {t : TypeId} {ds : List DV} (ht : P.underlying t = some .bool) (h : Sh P B (n + 1) t ds) : ∃ b, ds = [.sc (.bool b)] := by
  unfold Sh at h; rw [ht] at h; exact h
theorem sh_str {P : Program} {B n : Nat} {t : TypeId} {ds : List DV} (ht : P.underlying t = some .string) (h : Sh P B (n + 1) t ds) : ∃ s, ds = [.sc (.string (mkB s))] ∧ s.length ≤ B := by
  unfold Sh at h; rw [ht] at h; exact h
theorem sh_slice {P : Program} {B n : Nat} {t e : TypeId} {ds : List DV} (ht : P.underlying t = some (.slice e)) (h : Sh P B (n + 1) t ds) : ∃ l, ds = [.list false (P.cellsOf e) l] ∧ l.length ≤ B ∧ ∀ r ∈ l, Sh P B n e r := by
  unfold Sh at h; rw [ht] at h; exact h
theorem sh_struct {P : Program} {B n : Nat} {t : TypeId} {fs : Array Field} {ds : List DV} (ht : P.underlying t = some (.struct fs)) (h : Sh P B (n + 1) t ds) :
    ds.length = P.cellsOf t ∧ ∀ (i : Nat) (f : Field), fs[i]? = some f → Sh P B n f.type ((ds.drop f.offset).take (P.cellsOf f.type)) := by
  unfold Sh at h; rw [ht] at h; exact h

theorem RelL.cells_one {g : Gh} {ds : List DV} {vs : List Value} (hr : RelL g ds vs) (hc : ds.all DV.cell = true) : ∀ u ∈ vs, u.oneCell' = true := relL_one hr hc

/-- Rows, one behind the other in memory. -/
theorem rows_list {g : Gh} {b off es : Nat} {Q : List DV → Prop} : ∀ (len : Nat), (∀ i, i < len → ∃ ds cs, RelL g ds cs ∧ ds.length = es ∧ (∀ k v, cs[k]? = some v → g.pc b (off + i * es + k) = some v) ∧ Q ds) →
    ∃ (l : List (List DV)) (vs : List Value), l.length = len ∧ (∀ r ∈ l, r.length = es ∧ Q r) ∧ RelL g l.flatten vs ∧ (∀ k v, vs[k]? = some v → g.pc b (off + k) = some v)
  | 0, _ => ⟨[], [], rfl, by simp, RelL.nil g, by simp⟩
  | len + 1, H => by
    obtain ⟨l, vs, h1, h2, h3, h4⟩ := rows_list len fun i hi => H i (by omega)
    obtain ⟨ds, cs, k1, k2, k3, k4⟩ := H len (by omega)
    have hfl : ∀ (l : List (List DV)), (∀ r ∈ l, r.length = es ∧ Q r) → l.flatten.length = l.length * es := by
      intro l
      induction l with
      | nil => intro _; simp
      | cons r l ih =>
        intro h
        rw [List.flatten_cons, List.length_append, (h r List.mem_cons_self).1, ih fun x hx => h x (List.mem_cons_of_mem _ hx), List.length_cons, Nat.add_mul]
        omega
    have hlen : vs.length = len * es := by rw [← h3.len, hfl l h2, h1]
    refine ⟨l ++ [ds], vs ++ cs, by simp [h1], ?_, ?_, ?_⟩
    · intro r hr
      rcases List.mem_append.1 hr with hr | hr
      · exact h2 r hr
      · rw [List.mem_singleton.1 hr]; exact ⟨k2, k4⟩
    · rw [List.flatten_append, List.flatten_cons, List.flatten_nil, List.append_nil]
      exact h3.append k1
    · intro k v hv
      by_cases hk : k < vs.length
      · rw [List.getElem?_append_left hk] at hv; exact h4 k v hv
      · rw [List.getElem?_append_right (by omega)] at hv
        have := k3 _ v hv
        rw [← this]
        congr 1
        omega

theorem tiles_rel {H : Type} {enc : TypeId × Value → H} {P : Program} {W : World} {held : Bool} {g : Gh} {B n m : Nat} {cs : List Value} {xs : List (DataW H × List MemPlace)}
    (ih : ∀ t cs d ps, plainTy P n t = true → DataW.trod enc P W 0 (fun _ => true) held m t cs = some (d, ps) → Rows.uptoBulk d ≤ B + 1 → ∃ ds, RelL g ds cs ∧ ds.all DV.cell = true ∧ Sh P B n t ds ∧ cs.length = P.cellsOf t)
    (hB : ∀ x ∈ xs, Rows.uptoBulk x.1 ≤ B + 1) :
    ∀ (fs : List Field) (i0 k tot : Nat), tilesB P fs k tot = true → (fs.all fun f => plainTy P n f.type) = true → cs.length = tot →
      (∀ (i : Nat) (f : Field), fs[i]? = some f → ∃ x, xs[i0 + i]? = some x ∧ DataW.trod enc P W 0 (fun _ => true) held m f.type ((cs.drop f.offset).take (P.cellsOf f.type)) = some x) →
      k ≤ tot ∧ ∃ ds, RelL g ds (cs.drop k) ∧ ds.all DV.cell = true ∧ (∀ (i : Nat) (f : Field), fs[i]? = some f → k ≤ f.offset ∧ Sh P B n f.type ((ds.drop (f.offset - k)).take (P.cellsOf f.type)))
  | [], i0, k, tot, ht, _, hl, _ => by
    simp only [tilesB, beq_iff_eq] at ht
    subst ht
    refine ⟨Nat.le_refl _, [], ?_, rfl, by simp⟩
    rw [List.drop_eq_nil_of_le (by omega)]
    exact RelL.nil g
  | f :: fs, i0, k, tot, ht, hp, hl, hx => by
    simp only [tilesB, Bool.and_eq_true, beq_iff_eq] at ht
    simp only [List.all_cons, Bool.and_eq_true] at hp
    obtain ⟨hk, ds2, r2, c2, s2⟩ := tiles_rel ih hB fs (i0 + 1) (k + P.cellsOf f.type) tot ht.2 hp.2 hl (fun i f' hf => by
      have := hx (i + 1) f' (by simpa using hf)
      rwa [show i0 + (i + 1) = i0 + 1 + i by omega] at this)
    obtain ⟨x, hx1, hx2⟩ := hx 0 f rfl
    obtain ⟨ds1, r1, c1, s1, l1⟩ := ih f.type _ x.1 x.2 hp.1 hx2 (hB x (List.mem_of_getElem? hx1))
    rw [ht.1] at r1 l1
    have hsp : cs.drop k = (cs.drop k).take (P.cellsOf f.type) ++ cs.drop (k + P.cellsOf f.type) := by
      have e := (List.take_append_drop (P.cellsOf f.type) (cs.drop k)).symm
      rw [List.drop_drop] at e
      exact e
    have hl1 : ds1.length = P.cellsOf f.type := by rw [r1.len, l1]
    refine ⟨by omega, ds1 ++ ds2, ?_, by rw [List.all_append, c1, c2]; rfl, ?_⟩
    · rw [hsp]; exact r1.append r2
    · intro i f' hf
      cases i with
      | zero =>
        cases hf
        refine ⟨by omega, ?_⟩
        rw [ht.1, Nat.sub_self, List.drop_zero, List.take_append_of_le_length (by omega), List.take_of_length_le (by omega)]
        exact s1
      | succ i =>
        obtain ⟨q1, q2⟩ := s2 i f' (by simpa using hf)
        refine ⟨by omega, ?_⟩
        rw [List.drop_append, List.drop_eq_nil_of_le (by omega), List.nil_append, hl1, show f'.offset - k - P.cellsOf f.type = f'.offset - (k + P.cellsOf f.type) by omega]
        exact q2

/-- Whatever plain data is read in memory has a clean form. -/
theorem any_rel {H : Type} {enc : TypeId × Value → H} {P : Program} {W : World} {held : Bool} {B : Nat} : ∀ (n m : Nat) (t : TypeId) (cs : List Value) (d : DataW H) (ps : List MemPlace), plainTy P n t = true →
    DataW.trod enc P W 0 (fun _ => true) held m t cs = some (d, ps) → Rows.uptoBulk d ≤ B + 1 → ∃ ds, RelL (gh0 W) ds cs ∧ ds.all DV.cell = true ∧ Sh P B n t ds ∧ cs.length = P.cellsOf t
  | 0, m, t, cs, d, ps, hp, _, _ => by simp [plainTy] at hp
  | n + 1, m, t, cs, d, ps, hp, h, hb => by
    unfold plainTy at hp
    unfold Sh
    split at hp
    · rename_i ht
      obtain ⟨b, rfl, _⟩ := DataW.trod_bool ht h
      exact ⟨_, .cons (.sc _) (.nil _), rfl, ⟨b, rfl⟩, by simpa using (beq_iff_eq.1 hp).symm⟩
    · rename_i k ht
      obtain ⟨x, rfl, _, hw⟩ := DataW.trod_int ht h
      simp only [Lit.wf, Bool.and_eq_true, decide_eq_true_eq] at hw
      exact ⟨_, .cons (.sc _) (.nil _), rfl, ⟨x, rfl, hw.1, hw.2⟩, by simpa using (beq_iff_eq.1 hp).symm⟩
    · rename_i ht
      obtain ⟨s, rfl, hx, _⟩ := DataW.trod_string ht h
      cases hx
      refine ⟨_, .cons (.sc _) (.nil _), rfl, ⟨bs s, rfl, ?_⟩, by simpa using (beq_iff_eq.1 hp).symm⟩
      simp only [Rows.uptoBulk] at hb
      show s.data.toList.length ≤ B
      omega
    · rename_i e ht
      simp only [Bool.and_eq_true, beq_iff_eq, decide_eq_true_eq] at hp
      obtain ⟨⟨hp1, hp2⟩, hp3⟩ := hp
      rcases DataW.trod_slice ht h with ⟨rfl, hx⟩ | ⟨a, len, cap, elems, rest, q, rfl, rfl, hx, _, hlc, _, hel, hat, _, _⟩
      · exact ⟨_, .cons .empty (.nil _), rfl, ⟨[], rfl, by simp, by simp⟩, by simpa using hp1.symm⟩
      · have hd : d = .slice (elems.map (·.1)) (rest.map (·.1)) := congrArg Prod.fst hx
        subst hd
        simp only [Rows.uptoBulk] at hb
        have hlB : len ≤ B := by
          have := bulk_len (elems.map (·.1))
          rw [List.length_map] at this
          omega
        by_cases hz : len = 0
        · subst hz
          exact ⟨_, .cons .empty (.nil _), rfl, ⟨[], rfl, by simp, by simp⟩, by simpa using hp1.symm⟩
        obtain ⟨b, off, sp⟩ := a
        have hcell : ∀ i, i < len → ∃ ds cs, RelL (gh0 W) ds cs ∧ ds.length = P.cellsOf e ∧ ds.all DV.cell = true ∧ Sh P B n e ds ∧ ∀ k v, cs[k]? = some v → W.cell? ((Addr.mk b off sp).add (i * P.cellsOf e) |>.add k) = some v ∧ v.oneCell' = true := by
          intro i hi
          have h1 := hat i hi
          have h2 : elems[i]? = some (elems[i]'(by omega)) := List.getElem?_eq_getElem (by omega)
          rw [h2, Option.bind_eq_some_iff] at h1
          obtain ⟨cs, c1, c2⟩ := h1
          obtain ⟨_, c3, c4⟩ := World.cells?_some c1
          have hbi : Rows.uptoBulk (elems[i]'(by omega)).1 ≤ B + 1 := by
            have := bulk_get (l := elems.map (·.1)) (d := (elems[i]'(by omega)).1) (List.mem_map_of_mem (List.getElem_mem _))
            omega
          obtain ⟨ds, r1, r2, r3, r4⟩ := any_rel n q e cs _ _ hp3 c2 hbi
          refine ⟨ds, cs, r1, by rw [r1.len, r4], r2, r3, fun k v hv => ?_⟩
          have hk : k < P.cellsOf e := by rw [← c3]; exact (List.getElem?_eq_some_iff.1 hv).1
          exact ⟨(c4 k hk).trans hv, relL_one r1 r2 v (List.mem_of_getElem? hv)⟩
        have hsp : sp = none := by
          obtain ⟨ds, cs, r1, r2, _, _, r5⟩ := hcell 0 (by omega)
          have : cs ≠ [] := fun e0 => by
            have h0 := r1.len
            rw [e0, r2, List.length_nil] at h0
            omega
          obtain ⟨v, hv⟩ : ∃ v, cs[0]? = some v := ⟨cs[0]'(List.length_pos_iff.2 this), List.getElem?_eq_getElem _⟩
          have := (r5 0 v hv).1
          cases sp with
          | none => rfl
          | some _ =>
            simp [World.cell?, Addr.add] at this
            split at this <;> simp at this
        subst hsp
        have hadd : ∀ i k : Nat, ((Addr.mk b off none).add i).add k = ⟨b, off + i + k, none⟩ := fun i k => by
          by_cases hi : i = 0 <;> by_cases hk : k = 0 <;> simp [Addr.add, hi, hk]
        obtain ⟨l, vs, l1, l2, l3, l4⟩ := rows_list (g := gh0 W) (b := b) (off := off) (es := P.cellsOf e) (Q := fun ds => ds.all DV.cell = true ∧ Sh P B n e ds) len fun i hi => by
          obtain ⟨ds, cs, r1, r2, r3, r4, r5⟩ := hcell i hi
          refine ⟨ds, cs, r1, r2, fun k v hv => ?_, r3, r4⟩
          obtain ⟨q1, q2⟩ := r5 k v hv
          rw [hadd] at q1
          exact gh0_pc q1 q2
        refine ⟨[.list false (P.cellsOf e) l], .cons ?_ (.nil _), rfl, ⟨l, rfl, by omega, fun r hr => (l2 r hr).2.2⟩, by simpa using hp1.symm⟩
        rw [← l1]
        exact .list (by omega) (fun r hr => (l2 r hr).1) l3.len l3.at_ l4
    · rename_i fs ht
      simp only [Bool.and_eq_true] at hp
      obtain ⟨xs, q, rfl, hx, hcl, hxl, hf⟩ := DataW.trod_struct ht h
      have hd : d = .agg (xs.map (·.1)) := congrArg Prod.fst hx
      subst hd
      simp only [Rows.uptoBulk] at hb
      obtain ⟨_, ds, r1, r2, r3⟩ := tiles_rel (g := gh0 W) (B := B) (n := n) (m := q) (cs := cs) (xs := xs) (fun t cs d ps => any_rel n q t cs d ps) (fun x hx => by
        have := bulk_get (l := xs.map (·.1)) (d := x.1) (List.mem_map_of_mem hx)
        omega) fs.toList 0 0 (P.cellsOf t) hp.1 hp.2 hcl (fun i f hi => by
          have hi' : fs[i]? = some f := by simpa using hi
          have := hf i f hi'
          have hlt : i < xs.length := by rw [hxl]; exact (Array.getElem?_eq_some_iff.1 hi').1
          rw [Nat.zero_add]
          exact ⟨xs[i], List.getElem?_eq_getElem hlt, this.trans (List.getElem?_eq_getElem hlt)⟩)
      rw [List.drop_zero] at r1
      refine ⟨ds, r1, r2, ⟨by rw [r1.len, hcl], fun i f hi => ?_⟩, hcl⟩
      have := (r3 i f (by simpa using hi)).2
      simpa using this
    · cases hp
end Go.DS

/-
  Arguments of this program's types, opened.
-/
namespace Go.DS
open Go Go.Proofs Go.ChangeShapes Go.WideShapes Go.RowKit Go.Proofs.YtpbknejlalkfjaaGreat Go.Deep
set_option linter.unusedVariables false
set_option maxRecDepth 100000
set_option linter.unusedSimpArgs false
theorem sh_at {P : Program} {B n : Nat} {fs : Array Field} {ds : List DV} (hf : ∀ (i : Nat) (f : Field), fs[i]? = some f → Sh P B n f.type ((ds.drop f.offset).take (P.cellsOf f.type))) (i : Nat) (f : Field) (hi : fs[i]? = some f) (hc : P.cellsOf f.type = 1) (d : DV) (hd : ds[f.offset]? = some d) : Sh P B n f.type [d] := by
  have := hf i f hi
  obtain ⟨hl, rfl⟩ := List.getElem?_eq_some_iff.1 hd
  rw [hc, List.drop_eq_getElem_cons hl] at this
  exact this
def In64 (m : Int) : Prop := -9223372036854775808 ≤ m ∧ m ≤ 9223372036854775807
theorem in64 {m : Int} (h : IntKind.min .i64 ≤ m ∧ m ≤ IntKind.max .i64) : In64 m := by
  have e1 : IntKind.min .i64 = -9223372036854775808 := by decide
  have e2 : IntKind.max .i64 = 9223372036854775807 := by decide
  rw [e1, e2] at h
  exact h
/-- An argument of a struct. -/
theorem arg_struct {H : Type} {enc : TypeId × Value → H} {P : Program} {W : World} {held : Bool} {B base n : Nat} {t : TypeId} {fs : Array Field} {v : Value} {d : DataW H} {ps : List MemPlace} (ht : P.underlying t = some (.struct fs)) (hp : plainTy P n t = true)
    (hv : Value.okWide P W .any base t v) (h : DataW.Trod enc P W 0 (fun _ => true) held t v d ps) (hb : Rows.uptoBulk d ≤ B + 1) : ∃ ds, RelV (gh0 W) (.agg ds) v ∧ Sh P B n t ds := by
  obtain ⟨cs, rfl, _⟩ := okWide_struct ht hv
  obtain ⟨m, hm⟩ := h
  obtain ⟨ds, r1, _, r3, _⟩ := any_rel n m t _ d ps hp hm hb
  refine ⟨ds, ?_, r3⟩
  have := RelV.agg r1.len r1.at_
  simpa [Value.cells] using this
/-- An argument of a slice. -/
theorem arg_slice {H : Type} {enc : TypeId × Value → H} {P : Program} {W : World} {held : Bool} {B base n : Nat} {t e : TypeId} {v : Value} {d : DataW H} {ps : List MemPlace} (ht : P.underlying t = some (.slice e)) (hp : plainTy P (n + 1) t = true)
    (hv : Value.okWide P W .any base t v) (h : DataW.Trod enc P W 0 (fun _ => true) held t v d ps) (hb : Rows.uptoBulk d ≤ B + 1) : ∃ l, RelV (gh0 W) (.list false (P.cellsOf e) l) v ∧ l.length ≤ B ∧ ∀ r ∈ l, Sh P B n e r := by
  obtain ⟨a, len, cap, rfl⟩ := okWide_slice ht hv
  obtain ⟨m, hm⟩ := h
  obtain ⟨ds, r1, _, r3, _⟩ := any_rel (n + 1) m t _ d ps hp hm hb
  obtain ⟨l, rfl, h1, h2⟩ := sh_slice ht r3
  refine ⟨l, ?_, h1, h2⟩
  have r1' : RelL (gh0 W) [.list false (P.cellsOf e) l] [.slice a len cap] := by simpa [Value.cells] using r1
  exact r1'.at_ 0 _ _ rfl rfl
theorem rows_map {α : Type} {Q : List DV → Prop} {F : α → List DV} {R : α → Prop} (h : ∀ r, Q r → ∃ x, r = F x ∧ R x) : ∀ l : List (List DV), (∀ r ∈ l, Q r) → ∃ m : List α, l = m.map F ∧ (∀ x ∈ m, R x) ∧ m.length = l.length
  | [], _ => ⟨[], rfl, by simp, rfl⟩
  | r :: l, hl => by
    obtain ⟨m, rfl, h2, h3⟩ := rows_map h l fun x hx => hl x (List.mem_cons_of_mem _ hx)
    obtain ⟨x, rfl, h4⟩ := h r (hl r List.mem_cons_self)
    exact ⟨x :: m, rfl, fun y hy => by rcases List.mem_cons.1 hy with rfl | hy; exact h4; exact h2 y hy, by simp⟩
structure CmdOK (B : Nat) (c : Cmd) : Prop where
  path : c.path.length ≤ B
  value : c.value.length ≤ B
  client : In64 c.client
  seq : In64 c.seq
  op : In64 c.op
  version : In64 c.version
  a : In64 c.a
  b : In64 c.b
theorem cmd_of {B n : Nat} {ds : List DV} (h : Sh Tryz.prog B (n + 2) 27 ds) : ∃ c : Cmd, ds = cmdL c ∧ CmdOK B c := by
  obtain ⟨hl, hf⟩ := sh_struct Tryz.underlying27 h
  have hl' : ds.length = 8 := hl.trans (by kernel_rfl)
  match ds, hl' with
  | [d0, d1, d2, d3, d4, d5, d6, d7], _ =>
    obtain ⟨x0, e0, r0⟩ := sh_int Tryz.underlying3 (sh_at hf 0 _ rfl (by kernel_rfl) d0 rfl)
    obtain ⟨x1, e1, r1⟩ := sh_int Tryz.underlying3 (sh_at hf 1 _ rfl (by kernel_rfl) d1 rfl)
    obtain ⟨x2, e2, r2⟩ := sh_int Tryz.underlying25 (sh_at hf 2 _ rfl (by kernel_rfl) d2 rfl)
    obtain ⟨x3, e3, r3⟩ := sh_str Tryz.underlying9 (sh_at hf 3 _ rfl (by kernel_rfl) d3 rfl)
    obtain ⟨x4, e4, r4⟩ := sh_str Tryz.underlying9 (sh_at hf 4 _ rfl (by kernel_rfl) d4 rfl)
    obtain ⟨x5, e5, r5⟩ := sh_int Tryz.underlying3 (sh_at hf 5 _ rfl (by kernel_rfl) d5 rfl)
    obtain ⟨x6, e6, r6⟩ := sh_int Tryz.underlying3 (sh_at hf 6 _ rfl (by kernel_rfl) d6 rfl)
    obtain ⟨x7, e7, r7⟩ := sh_int Tryz.underlying3 (sh_at hf 7 _ rfl (by kernel_rfl) d7 rfl)
    cases e0; cases e1; cases e2; cases e3; cases e4; cases e5; cases e6; cases e7
    exact ⟨⟨x0, x1, x2, x3, x4, x5, x6, x7⟩, rfl, r3, r4, in64 r0, in64 r1, in64 r2, in64 r5, in64 r6, in64 r7⟩
theorem arg_cmd {H : Type} {enc : TypeId × Value → H} {W : World} {held : Bool} {B base : Nat} {v : Value} {d : DataW H} {ps : List MemPlace} (hv : Value.okWide Tryz.prog W .any base 27 v)
    (h : DataW.Trod enc Tryz.prog W 0 (fun _ => true) held 27 v d ps) (hb : Rows.uptoBulk d ≤ B + 1) : ∃ c : Cmd, RelV (gh0 W) (cmdD c) v ∧ CmdOK B c := by
  obtain ⟨ds, r1, r2⟩ := arg_struct (n := 2) Tryz.underlying27 (by kernel_rfl) hv h hb
  obtain ⟨c, rfl, hc⟩ := cmd_of r2
  exact ⟨c, r1, hc⟩
theorem arg_cmds {H : Type} {enc : TypeId × Value → H} {W : World} {held : Bool} {B base : Nat} {v : Value} {d : DataW H} {ps : List MemPlace} (hv : Value.okWide Tryz.prog W .any base 34 v)
    (h : DataW.Trod enc Tryz.prog W 0 (fun _ => true) held 34 v d ps) (hb : Rows.uptoBulk d ≤ B + 1) : ∃ l : List Cmd, RelV (gh0 W) (.list false 8 (cms l)) v ∧ l.length ≤ B ∧ ∀ c ∈ l, CmdOK B c := by
  obtain ⟨l, r1, r2, r3⟩ := arg_slice (n := 2) Tryz.underlying34 (by kernel_rfl) hv h hb
  obtain ⟨m, rfl, h1, h2⟩ := rows_map (fun r hr => cmd_of (n := 0) hr) l r3
  refine ⟨m, ?_, by omega, h1⟩
  have e : Tryz.prog.cellsOf 27 = 8 := by kernel_rfl
  rwa [e] at r1
end Go.DS

/-
  Arguments of this program's types: instances, attributes.
-/
namespace Go.DS
open Go Go.Proofs Go.ChangeShapes Go.WideShapes Go.RowKit Go.Proofs.YtpbknejlalkfjaaGreat Go.Deep
set_option linter.unusedVariables false
set_option maxRecDepth 100000
set_option linter.unusedSimpArgs false
theorem sh_sub {P : Program} {B n : Nat} {fs : Array Field} {ds : List DV} (hf : ∀ (i : Nat) (f : Field), fs[i]? = some f → Sh P B n f.type ((ds.drop f.offset).take (P.cellsOf f.type))) (i : Nat) (f : Field) (hi : fs[i]? = some f) (k : Nat) (hc : P.cellsOf f.type = k) (l : List DV) (hl : (ds.drop f.offset).take k = l) : Sh P B n f.type l := by
  rw [← hl, ← hc]; exact hf i f hi
structure IdOK (x : Id) : Prop where
  e : In64 x.e
  n : In64 x.n
  k : In64 x.k
theorem id_of {B n : Nat} {ds : List DV} (h : Sh Tryz.prog B (n + 2) 24 ds) : ∃ x : Id, ds = idL x ∧ IdOK x := by
  obtain ⟨hl, hf⟩ := sh_struct Tryz.underlying24 h
  have hl' : ds.length = 3 := hl.trans (by kernel_rfl)
  match ds, hl' with
  | [d0, d1, d2], _ =>
    obtain ⟨x0, e0, r0⟩ := sh_int Tryz.underlying3 (sh_at hf 0 _ rfl (by kernel_rfl) d0 rfl)
    obtain ⟨x1, e1, r1⟩ := sh_int Tryz.underlying3 (sh_at hf 1 _ rfl (by kernel_rfl) d1 rfl)
    obtain ⟨x2, e2, r2⟩ := sh_int Tryz.underlying3 (sh_at hf 2 _ rfl (by kernel_rfl) d2 rfl)
    cases e0; cases e1; cases e2
    exact ⟨⟨x0, x1, x2⟩, rfl, in64 r0, in64 r1, in64 r2⟩
theorem ids_of {B n : Nat} {ds : List DV} (h : Sh Tryz.prog B (n + 3) 28 ds) : ∃ l : List Id, ds = [.list false 3 (idr l)] ∧ l.length ≤ B ∧ ∀ x ∈ l, IdOK x := by
  obtain ⟨l, rfl, h1, h2⟩ := sh_slice Tryz.underlying28 h
  obtain ⟨m, rfl, h3, h4⟩ := rows_map (fun r hr => id_of hr) l h2
  have e : Tryz.prog.cellsOf 24 = 3 := by kernel_rfl
  exact ⟨m, by rw [e]; rfl, by simpa using h1, h3⟩
structure AttOK (B : Nat) (a : Att) : Prop where
  seq : In64 a.seq
  len : a.deps.length ≤ B
  deps : ∀ x ∈ a.deps, IdOK x
theorem att_of {B n : Nat} {ds : List DV} (h : Sh Tryz.prog B (n + 4) 30 ds) : ∃ a : Att, ds = attL a ∧ AttOK B a := by
  obtain ⟨hl, hf⟩ := sh_struct Tryz.underlying30 h
  have hl' : ds.length = 2 := hl.trans (by kernel_rfl)
  match ds, hl' with
  | [d0, d1], _ =>
    obtain ⟨x0, e0, r0⟩ := sh_int Tryz.underlying3 (sh_at hf 0 _ rfl (by kernel_rfl) d0 rfl)
    obtain ⟨x1, e1, r1, r1'⟩ := ids_of (n := n) (sh_at hf 1 _ rfl (by kernel_rfl) d1 rfl)
    cases e0; cases e1
    exact ⟨⟨x0, x1⟩, rfl, in64 r0, r1, r1'⟩
structure KnoOK (B : Nat) (x : Kno) : Prop where
  id : IdOK x.id
  cmd : CmdOK B x.cmd
  att : AttOK B x.att
theorem kno_of {B n : Nat} {ds : List DV} (h : Sh Tryz.prog B (n + 5) 77 ds) : ∃ x : Kno, ds = knoL x ∧ KnoOK B x := by
  obtain ⟨hl, hf⟩ := sh_struct Tryz.underlying77 h
  have hl' : ds.length = 13 := hl.trans (by kernel_rfl)
  match ds, hl' with
  | [d0, d1, d2, d3, d4, d5, d6, d7, d8, d9, d10, d11, d12], _ =>
    obtain ⟨x0, e0, r0⟩ := id_of (n := n + 2) (sh_sub hf 0 _ rfl 3 (by kernel_rfl) [d0, d1, d2] rfl)
    obtain ⟨x1, e1, r1⟩ := cmd_of (n := n + 2) (sh_sub hf 1 _ rfl 8 (by kernel_rfl) [d3, d4, d5, d6, d7, d8, d9, d10] rfl)
    obtain ⟨x2, e2, r2⟩ := att_of (n := n) (sh_sub hf 2 _ rfl 2 (by kernel_rfl) [d11, d12] rfl)
    cases e0; cases e1; cases e2
    exact ⟨⟨x0, x1, x2⟩, rfl, r0, r1, r2⟩
section
variable {H : Type} {enc : TypeId × Value → H} {W : World} {held : Bool} {B base : Nat} {v : Value} {d : DataW H} {ps : List MemPlace}
theorem arg_id (hv : Value.okWide Tryz.prog W .any base 24 v) (h : DataW.Trod enc Tryz.prog W 0 (fun _ => true) held 24 v d ps) (hb : Rows.uptoBulk d ≤ B + 1) : ∃ x : Id, RelV (gh0 W) (.agg [vi x.e, vi x.n, vi x.k]) v ∧ IdOK x := by
  obtain ⟨ds, r1, r2⟩ := arg_struct (n := 2) Tryz.underlying24 (by kernel_rfl) hv h hb
  obtain ⟨c, rfl, hc⟩ := id_of (n := 0) r2
  exact ⟨c, r1, hc⟩
theorem arg_att (hv : Value.okWide Tryz.prog W .any base 30 v) (h : DataW.Trod enc Tryz.prog W 0 (fun _ => true) held 30 v d ps) (hb : Rows.uptoBulk d ≤ B + 1) : ∃ x : Att, RelV (gh0 W) (attD x) v ∧ AttOK B x := by
  obtain ⟨ds, r1, r2⟩ := arg_struct (n := 4) Tryz.underlying30 (by kernel_rfl) hv h hb
  obtain ⟨c, rfl, hc⟩ := att_of (n := 0) r2
  exact ⟨c, r1, hc⟩
theorem arg_kno (hv : Value.okWide Tryz.prog W .any base 77 v) (h : DataW.Trod enc Tryz.prog W 0 (fun _ => true) held 77 v d ps) (hb : Rows.uptoBulk d ≤ B + 1) : ∃ x : Kno, RelV (gh0 W) (knoD x) v ∧ KnoOK B x := by
  obtain ⟨ds, r1, r2⟩ := arg_struct (n := 5) Tryz.underlying77 (by kernel_rfl) hv h hb
  obtain ⟨c, rfl, hc⟩ := kno_of (n := 0) r2
  exact ⟨c, r1, hc⟩
theorem arg_knos (hv : Value.okWide Tryz.prog W .any base 22 v) (h : DataW.Trod enc Tryz.prog W 0 (fun _ => true) held 22 v d ps) (hb : Rows.uptoBulk d ≤ B + 1) : ∃ l : List Kno, RelV (gh0 W) (.list false 13 (kns l)) v ∧ l.length ≤ B ∧ ∀ x ∈ l, KnoOK B x := by
  obtain ⟨l, r1, r2, r3⟩ := arg_slice (n := 5) Tryz.underlying22 (by kernel_rfl) hv h hb
  obtain ⟨m, rfl, h1, h2⟩ := rows_map (fun r hr => kno_of (n := 0) hr) l r3
  refine ⟨m, ?_, by omega, h1⟩
  have e : Tryz.prog.cellsOf 77 = 13 := by kernel_rfl
  rwa [e] at r1
end
end Go.DS

/-
  Walks: the laws of attr: what they share.
-/
namespace Go.DS
open Go Go.Proofs
set_option maxRecDepth 100000
set_option linter.unusedVariables false
set_option linter.unusedSimpArgs false
def cd6 : Cd := .seq (R [cb 0 (.mv (.c (kb false)))] [1, 2, 3, 4, 5, 6]) (.seq (R [c0 7 (.bld [ki .i64 0, ki .i64 0, ki .i64 0] [(1, 1, (.c (ki .i64 1)))]), c0 8 (.bld [ki .i64 0, ki .i64 0, ki .i64 0, ks [], ks [], ki .i64 0, ki .i64 0, ki .i64 0] [(0, 1, (.c (ki .i64 1))), (2, 1, (.c (ki .i64 3))), (3, 1, (.c (ks [47, 97])))]), c0 9 (.bld [ki .i64 0, kz 3] [(0, 1, (.c (ki .i64 4)))]), c0 10 (.bld [ki .i64 0, ki .i64 0, ki .i64 0, ki .i64 0, ki .i64 0, ki .i64 0, ks [], ks [], ki .i64 0, ki .i64 0, ki .i64 0, ki .i64 0, kz 3] [(0, 3, (.s 7)), (3, 8, (.s 8)), (11, 2, (.s 9))]), c0 1 (.new false (.c (.agg [ki .i64 0, ki .i64 0, ki .i64 0, ki .i64 0, ki .i64 0, ki .i64 0, ks [], ks [], ki .i64 0, ki .i64 0, ki .i64 0, ki .i64 0, kn 3]))), cn (.st 13 (.s 1) (.s 10))] [1, 2, 3, 4, 5, 6]) (.seq (R [c0 11 (.bld [ki .i64 0, ki .i64 0, ki .i64 0] [(1, 1, (.c (ki .i64 2)))]), c0 2 (.new false (.c (.agg [ki .i64 0, ki .i64 0, ki .i64 0]))), cn (.st 3 (.s 2) (.s 11))] [1, 2, 3, 4, 5, 6]) (.seq (R [c0 12 (.bld [ki .i64 0, ki .i64 0, ki .i64 0, ks [], ks [], ki .i64 0, ki .i64 0, ki .i64 0] [(0, 1, (.c (ki .i64 2))), (2, 1, (.c (ki .i64 4))), (3, 1, (.c (ks [47, 97])))]), c0 3 (.new false (.c (.agg [ki .i64 0, ki .i64 0, ki .i64 0, ks [], ks [], ki .i64 0, ki .i64 0, ki .i64 0]))), cn (.st 8 (.s 3) (.s 12))] [1, 2, 3, 4, 5, 6]) (.seq (R [c0 13 (.ld true 13 (.s 1)), c0 14 (.bsl 13 [(.s 13)]), c0 15 (.ld true 3 (.s 2)), c0 16 (.ld true 8 (.s 3)), c0 17 (.call none (.c (kf 10)) [(.s 14), (.s 15), (.s 16)]), c0 4 (.new false (.c (.agg [ki .i64 0, kn 3]))), cn (.st 2 (.s 4) (.s 17))] [1, 2, 3, 4, 5, 6]) (.seq (R [c0 18 (.ld true 2 (.s 4)), c0 19 (.bld [ki .i64 0, ki .i64 0, ki .i64 0] [(1, 1, (.c (ki .i64 3)))]), c0 20 (.bsl 3 [(.s 19)]), c0 21 (.bld [ki .i64 0, kz 3] [(0, 1, (.c (ki .i64 2))), (1, 1, (.s 20))]), c0 22 (.call none (.c (kf 26)) [(.s 18), (.s 21)]), c0 5 (.new false (.c (.agg [ki .i64 0, kn 3]))), cn (.st 2 (.s 5) (.s 22))] [1, 2, 3, 4, 5, 6]) (.seq (R [c0 23 (.ld true 3 (.s 2)), c0 24 (.ld true 8 (.s 3)), c0 25 (.ld true 2 (.s 4)), c0 26 (.bld [ki .i64 0, ki .i64 0, ki .i64 0, ki .i64 0, ki .i64 0, ki .i64 0, ks [], ks [], ki .i64 0, ki .i64 0, ki .i64 0, ki .i64 0, kz 3] [(0, 3, (.s 23)), (3, 8, (.s 24)), (11, 2, (.s 25))]), c0 6 (.new false (.c (.agg [ki .i64 0, ki .i64 0, ki .i64 0, ki .i64 0, ki .i64 0, ki .i64 0, ks [], ks [], ki .i64 0, ki .i64 0, ki .i64 0, ki .i64 0, kn 3]))), cn (.st 13 (.s 6) (.s 26))] [1, 2, 3, 4, 5, 6]) (.seq (RD (cd (some 27) false none (.mov 0 (.s 4)) false false [4] :: cd (some 28) false none (.ld false 1 (.s 27)) false false [27] :: cd (some 29) true none (.bin .eql .any (.s 28) (.c (ki .i64 5))) false false [28] :: cd (some 30) true none (.mv (.s 29)) false false [29] :: cd (some 31) false (some (30, true)) (.mov 1 (.s 4)) false false [4] :: cd (some 32) false (some (30, true)) (.ld false 5 (.s 31)) false false [31] :: cd (some 33) false (some (30, true)) (.len 1 (.s 32)) false false [32] :: cd (some 34) true (some (30, true)) (.bin .eql .any (.s 33) (.c (ki .i64 1))) false false [33] :: cd (some 35) true none (.pick (.s 30) (.s 34) (.c (kb false))) false false [30, 34] :: cd (some 36) true none (.mv (.s 35)) false false [35] :: cd (some 37) false (some (36, true)) (.mov 1 (.s 4)) false false [4] :: cd (some 38) false (some (36, true)) (.ld false 5 (.s 37)) false false [37] :: cd (some 39) false (some (36, true)) (.ixp 3 (.s 38) (.c (ki .i64 0))) false false [38] :: cd (some 40) false (some (36, true)) (.ld true 3 (.s 39)) false false [39] :: cd (some 41) false (some (36, true)) (.mov 0 (.s 1)) false false [1] :: cd (some 42) false (some (36, true)) (.ld true 3 (.s 41)) false false [41] :: cd (some 43) true (some (36, true)) (.bin .eql (.flat [0, 0, 0]) (.s 40) (.s 42)) false false [40, 42] :: cd (some 44) true none (.pick (.s 36) (.s 43) (.c (kb false))) false false [36, 43] :: cd (some 45) true none (.mv (.s 44)) false false [44] :: cd (some 46) false (some (45, true)) (.mov 0 (.s 5)) false false [5] :: cd (some 47) false (some (45, true)) (.ld false 1 (.s 46)) false false [46] :: cd (some 48) true (some (45, true)) (.bin .eql .any (.s 47) (.c (ki .i64 5))) false false [47] :: cd (some 49) true none (.pick (.s 45) (.s 48) (.c (kb false))) false false [45, 48] :: cd (some 50) true none (.mv (.s 49)) false false [49] :: cd (some 51) false (some (50, true)) (.mov 1 (.s 5)) false false [5] :: cd (some 52) false (some (50, true)) (.ld false 5 (.s 51)) false false [51] :: cd (some 53) false (some (50, true)) (.len 1 (.s 52)) false false [52] :: cd (some 54) true (some (50, true)) (.bin .eql .any (.s 53) (.c (ki .i64 2))) false false [53] :: cd (some 55) true none (.pick (.s 50) (.s 54) (.c (kb false))) false false [50, 54] :: cd (some 56) true none (.mv (.s 55)) false false [55] :: cd (some 57) false (some (56, true)) (.ld true 3 (.s 2)) false false [2] :: cd (some 58) false (some (56, true)) (.ld true 2 (.s 5)) false false [5] :: cd (some 59) true (some (56, true)) (.call none (.c (kf 13)) [(.s 57), (.s 58)]) false false [57, 58] :: cd (some 60) true none (.pick (.s 56) (.s 59) (.c (kb false))) false false [56, 59] :: cd (some 61) true none (.mv (.s 60)) false false [60] :: cd (some 62) false (some (61, true)) (.ld true 2 (.s 4)) false false [4] :: cd (some 63) false (some (61, true)) (.ld true 2 (.s 4)) false false [4] :: cd (some 64) true (some (61, true)) (.call none (.c (kf 27)) [(.s 62), (.s 63)]) false false [62, 63] :: cd (some 65) true none (.pick (.s 61) (.s 64) (.c (kb false))) false false [61, 64] :: cd (some 66) true none (.mv (.s 65)) false false [65] :: cd (some 67) false (some (66, true)) (.ld true 13 (.s 1)) false false [1] :: cd (some 68) false (some (66, true)) (.ld true 13 (.s 6)) false false [6] :: cd (some 69) true (some (66, true)) (.call none (.c (kf 28)) [(.s 67), (.s 68)]) false false [67, 68] :: cd (some 70) true none (.pick (.s 66) (.s 69) (.c (kb false))) false false [66, 69] :: cd (some 71) true none (.mv (.s 70)) false false [70] :: cd (some 72) false (some (71, true)) (.ld true 2 (.s 4)) false false [4] :: cd (some 73) false (some (71, true)) (.ld true 2 (.s 4)) false false [4] :: cd (some 74) false (some (71, true)) (.bsl 2 [(.s 72), (.s 73)]) false false [72, 73] :: cd (some 75) true (some (71, true)) (.call none (.c (kf 29)) [(.s 74)]) false false [74] :: cd (some 76) true none (.pick (.s 71) (.s 75) (.c (kb false))) false false [71, 75] :: cd (some 77) true none (.mv (.s 76)) false false [76] :: cd (some 78) false (some (77, true)) (.ld true 2 (.s 4)) false false [4] :: cd (some 79) false (some (77, true)) (.ld true 2 (.s 5)) false false [5] :: cd (some 80) false (some (77, true)) (.bsl 2 [(.s 78), (.s 79)]) false false [78, 79] :: cd (some 81) false (some (77, true)) (.call none (.c (kf 30)) [(.s 80)]) false false [80] :: cd (some 82) false (some (77, true)) (.fld 0 false 1 (.s 81)) false false [81] :: cd (some 83) true (some (77, true)) (.bin .eql .any (.s 82) (.c (ki .i64 5))) false false [82] :: cd (some 84) true none (.pick (.s 77) (.s 83) (.c (kb false))) false false [77, 83] :: cd (some 0) true none (.mv (.s 84)) false false [84] :: []) [0, 1, 2, 3, 4, 5, 6] []) (.ret))))))))
theorem fun6 : Fun Tryz.prog cfg 6 85 cd6 [.s 0] := ⟨rfl, Tryz.f6, _, Tryz.func6, rfl, rfl, by kernel_rfl, by kernel_rfl⟩
@[go_sem] theorem ok6 : calleeOK Tryz.prog 6 = true := by kernel_rfl
@[go_sem] theorem ex6 : (cfg.ext 6).isSome = false := rfl
def cd7 : Cd := .seq (R [cb 2 (.tk (.c (kb false)))] [0]) (.seq (.seq (R [c0 3 (.tk (.c (ki .i64 0)))] [0, 3]) (.block 0 (LP [0, 3] (.seq (.seq (R [c0 4 (.mv (.s 3)), c0 5 (.mv (.s 0)), c0 6 (.len 1 (.s 5)), cb 7 (.bin .lss .any (.s 4) (.s 6)), cb 8 (.mv (.s 7)), cg 9 8 true (.mv (.s 3)), ch 10 8 true (.bin .leq .any (.s 9) (.c (ki .i64 40))), cb 11 (.pick (.s 8) (.s 10) (.c (kb false)))] [0, 3, 11]) (.ite (.s 11) (.skip) (.exit 0))) (.seq (.block 1 (.seq (R (c0 14 (.mv (.s 0)) :: c0 15 (.mv (.s 3)) :: c0 16 (.ixp 13 (.s 14) (.s 15)) :: c0 17 (.mov 11 (.s 16)) :: c0 18 (.mov 1 (.s 17)) :: c0 19 (.ld false 5 (.s 18)) :: c0 20 (.len 1 (.s 19)) :: cb 21 (.bin .gtr .any (.s 20) (.c (ki .i64 40))) :: cb 22 (.mv (.s 21)) :: cg 23 22 false (.mv (.s 0)) :: cg 24 22 false (.mv (.s 3)) :: cg 25 22 false (.ixp 13 (.s 23) (.s 24)) :: cg 26 22 false (.mov 3 (.s 25)) :: cg 27 22 false (.ld true 8 (.s 26)) :: cg 28 22 false (.bsl 8 [(.s 27)]) :: ch 29 22 false (.call none (.c (kf 8)) [(.s 28)]) :: cb 30 (.pick (.s 22) (.c (kb true)) (.s 29)) :: cb 31 (.mv (.s 30)) :: cg 32 31 false (.mv (.s 0)) :: cg 33 31 false (.mv (.s 3)) :: cg 34 31 false (.ixp 13 (.s 32) (.s 33)) :: cg 35 31 false (.mov 11 (.s 34)) :: cg 36 31 false (.mov 0 (.s 35)) :: cg 37 31 false (.ld false 1 (.s 36)) :: ch 38 31 false (.bin .gtr .any (.s 37) (.c (ki .i64 1125899906842624))) :: cb 39 (.pick (.s 31) (.c (kb true)) (.s 38)) :: []) [0, 3, 39]) (.ite (.s 39) (.seq (R [cb 2 (.tk (.c (kb false)))] [2]) (.ret)) (.skip)))) (R [c0 12 (.mv (.s 3)), c0 13 (.bin .add .any (.s 12) (.c (ki .i64 1))), c0 3 (.tk (.s 13))] [0, 3])))))) (.seq (R [c0 40 (.mv (.s 0)), c0 41 (.len 1 (.s 40)), cb 42 (.bin .leq .any (.s 41) (.c (ki .i64 40))), cb 2 (.tk (.s 42))] [2]) (.ret)))
theorem fun7 : Fun Tryz.prog cfg 7 43 cd7 [.s 2] := ⟨rfl, Tryz.f7, _, Tryz.func7, rfl, rfl, by kernel_rfl, by kernel_rfl⟩
@[go_sem] theorem ok7 : calleeOK Tryz.prog 7 = true := by kernel_rfl
@[go_sem] theorem ex7 : (cfg.ext 7).isSome = false := rfl
variable {h : DHeap}
abbrev k11 : Kno := ⟨⟨0, 1, 0⟩, ⟨1, 0, 3, [47, 97], [], 0, 0, 0⟩, ⟨4, []⟩⟩
abbrev c11 : Cmd := ⟨2, 0, 4, [47, 97], [], 0, 0, 0⟩
abbrev i11 : Id := ⟨0, 2, 0⟩
abbrev a11 : Att := ⟨5, [⟨0, 1, 0⟩]⟩
abbrev b11 : Att := ⟨5, [⟨0, 1, 0⟩, ⟨0, 3, 0⟩]⟩
theorem parse_a11 : parse [47, 97] = some [[97]] := parse_pathOf (l := [[97]]) (by decide)
theorem names_a11 : namesP [47, 97] = [[97]] := by simp [namesP, parse_a11]
theorem parent_a11 : parentP [47, 97] = [47] := by simp [parentP, names_a11, pathOf, join_nil]
theorem both11 : bothB k11.cmd c11 = true := by
  have e1 : usesP k11.cmd = ([([47, 97], 101)], [([47, 97], 118)]) := by
    simp [usesP, parse_a11, ofP, parent_a11]
  have e2 : usesP c11 = ([([47, 97], 101), ([47, 97], 118)], []) := by
    simp [usesP, parse_a11, ofP, parent_a11]
  unfold bothB pathsB
  rw [e1, e2]
  decide
theorem local11 : localP [k11] i11 c11 = a11 := by
  have hm : matters i11 c11 k11 = true := by
    have := both11
    simp only [matters, this]
    decide
  have e1 : cleanP [(⟨0, 1, 0⟩ : Id)] = [⟨0, 1, 0⟩] := clean_self (by simp [Rises])
  unfold localP
  simp only [List.filter_cons, hm, if_true, List.filter_nil, List.foldl_cons, List.foldl_nil, List.map_cons, List.map_nil]
  rw [e1]
  rfl
theorem merge11 : mergeP a11 ⟨2, [⟨0, 3, 0⟩]⟩ = b11 := by
  have e1 : cleanP [(⟨0, 1, 0⟩ : Id), ⟨0, 3, 0⟩] = [⟨0, 1, 0⟩, ⟨0, 3, 0⟩] := clean_self (by simp [Rises, ordI_lt])
  show (⟨max 5 2, cleanP [⟨0, 1, 0⟩, ⟨0, 3, 0⟩]⟩ : Att) = _
  rw [e1]
  rfl
theorem sameA_self (a : Att) : sameA a a = true := sameA_iff.2 ⟨rfl, fun x => Iff.rfl⟩
set_option maxHeartbeats 1000000 in
theorem works11_lim : lim Tryz.prog cfg 6 [] h = some (vb true, h) := by
  refine lim_funp fun6 rfl (by simp) rfl rfl ?_
  delta cd6
  have e1 : lim Tryz.prog cfg 10 [.list false 13 [[vi 0, vi 1, vi 0, vi 1, vi 0, vi 3, vs [47, 97], vs [], vi 0, vi 0, vi 0, vi 4, .list false 3 []]], .agg [vi 0, vi 2, vi 0], .agg [vi 2, vi 0, vi 4, vs [47, 97], vs [], vi 0, vi 0, vi 0]] [] = some (.agg [vi 5, .list false 3 [[vi 0, vi 1, vi 0]]], []) := by
    have e := local_lim (h := []) false [k11] i11 c11 (by simp) (by simp) (by simp)
    rw [local11] at e
    exact e
  have e2 : lim Tryz.prog cfg 26 [.agg [vi 5, .list false 3 [[vi 0, vi 1, vi 0]]], .agg [vi 2, .list false 3 [[vi 0, vi 3, vi 0]]]] [] = some (.agg [vi 5, .list false 3 [[vi 0, vi 1, vi 0], [vi 0, vi 3, vi 0]]], []) := by
    have e := merge_lim (h := []) a11 ⟨2, [⟨0, 3, 0⟩]⟩ (by simp)
    rw [merge11] at e
    exact e
  have e3 : lim Tryz.prog cfg 13 [.agg [vi 0, vi 2, vi 0], .agg [vi 5, .list false 3 [[vi 0, vi 1, vi 0], [vi 0, vi 3, vi 0]]]] [] = some (vb true, []) := by
    have e := validA_lim (h := []) i11 b11 (by simp)
    rw [show validA i11 b11 = true by decide] at e
    exact e
  have e4 : lim Tryz.prog cfg 27 [.agg [vi 5, .list false 3 [[vi 0, vi 1, vi 0]]], .agg [vi 5, .list false 3 [[vi 0, vi 1, vi 0]]]] [] = some (vb true, []) := by
    have e := sameA_lim (h := []) a11 a11 (by simp) (by simp)
    rw [sameA_self] at e
    exact e
  have e5 : lim Tryz.prog cfg 28 [.agg [vi 0, vi 1, vi 0, vi 1, vi 0, vi 3, vs [47, 97], vs [], vi 0, vi 0, vi 0, vi 4, .list false 3 []], .agg [vi 0, vi 2, vi 0, vi 2, vi 0, vi 4, vs [47, 97], vs [], vi 0, vi 0, vi 0, vi 5, .list false 3 [[vi 0, vi 1, vi 0]]]] [] = some (vb true, []) := by
    have e := linked_lim (h := []) k11 ⟨i11, c11, a11⟩ (by simp) (by simp)
    rw [show linkedP k11 ⟨i11, c11, a11⟩ = true by decide] at e
    exact e
  have e6 : lim Tryz.prog cfg 29 [.list false 2 [[vi 5, .list false 3 [[vi 0, vi 1, vi 0]]], [vi 5, .list false 3 [[vi 0, vi 1, vi 0]]]]] [] = some (vb true, []) := by
    have e := agree_lim (h := []) false [a11, a11] (by simp) (by simp)
    rw [show agreeP [a11, a11] = true by simp [agreeP, sameA_self]] at e
    exact e
  have e7 : ∃ zd, lim Tryz.prog cfg 30 [.list false 2 [[vi 5, .list false 3 [[vi 0, vi 1, vi 0]]], [vi 5, .list false 3 [[vi 0, vi 1, vi 0], [vi 0, vi 3, vi 0]]]]] [] = some (.agg [vi 5, .list false 3 (idr zd)], []) := by
    have e := allA_lim (h := []) false [a11, b11] (by simp) (by simp)
    have q : (allA [a11, b11]).seq = 5 := by decide
    generalize allA [a11, b11] = z at e q
    obtain ⟨zs, zd⟩ := z
    dsimp only at q
    subst q
    exact ⟨zd, e⟩
  obtain ⟨zd, e7⟩ := e7
  simp -implicitDefEqProofs -dsimp (maxSteps := 1000000) only [go_sem, e1, e2, e3, e4, e5, e6, e7]
def badK (x : Kno) : Bool := decide (40 < x.att.deps.length) || overP [x.cmd] || decide (1125899906842624 < x.att.seq)
def fewP (l : List Kno) : Bool := !((l.take 41).any badK) && decide (l.length ≤ 40)
set_option maxHeartbeats 1000000 in
theorem few_lim (own : Bool) (l : List Kno) (hl : l.length ≤ 1099511627776) : lim Tryz.prog cfg 7 [.list own 13 (kns l)] h = some (vb (fewP l), h) := by
  refine lim_funp fun7 rfl (by simp) (by simp [heapFree, free_kns]) rfl ?_
  delta cd7
  simp -implicitDefEqProofs -dsimp only [go_sem]
  refine wp_for (σ := Nat) (fun k => [(0, .list false 13 (kns l)), (3, vi (k : Nat))]) (fun _ => []) (fun k => l.length - k) (fun k => k ≤ l.length ∧ k ≤ 41 ∧ (l.take k).any badK = false) 0 (by simp) rfl rfl ?_
  rintro k ⟨hk, hk2, hj⟩ N hN
  by_cases hlt : k < l.length
  · have h1 : ((k : Int) < (l.length : Int)) := by omega
    by_cases h40 : k ≤ 40
    · have h2 : ((k : Int) ≤ 40) := by omega
      have hs := List.take_succ_eq_append_getElem hlt
      have o1 := over_lim (h := []) false [l[k].cmd] (by simp)
      simp only [cms, List.map_cons, List.map_nil] at o1
      cases hb : badK l[k] with
      | true =>
        have ho : fewP l = false := by
          have : (l.take 41).any badK = true := by
            rw [List.any_eq_true]
            exact ⟨l[k], List.mem_take_iff_getElem.2 ⟨k, by omega, rfl⟩, hb⟩
          simp [fewP, this]
        rw [ho]
        by_cases b1 : 40 < l[k].att.deps.length
        · have b1' : (40 : Int) < (l[k].att.deps.length : Int) := by omega
          simp -implicitDefEqProofs -dsimp only [go_sem, h1, h2, hlt, b1']
        · have b1' : ¬ (40 : Int) < (l[k].att.deps.length : Int) := by omega
          cases b2 : overP [l[k].cmd] with
          | true =>
            rw [b2] at o1
            simp -implicitDefEqProofs -dsimp only [go_sem, h1, h2, hlt, b1', o1]
          | false =>
            rw [b2] at o1
            have b3 : 1125899906842624 < l[k].att.seq := by
              simp only [badK, b1, b2, decide_false, Bool.false_or, decide_eq_true_eq] at hb
              exact hb
            simp -implicitDefEqProofs -dsimp only [go_sem, h1, h2, hlt, b1', o1, b3]
      | false =>
        have hb' := hb
        simp only [badK, Bool.or_eq_false_iff, decide_eq_false_iff_not] at hb'
        obtain ⟨⟨b1, b2⟩, b3⟩ := hb'
        have b1' : ¬ (40 : Int) < (l[k].att.deps.length : Int) := by omega
        rw [b2] at o1
        simp -implicitDefEqProofs -dsimp only [go_sem, h1, h2, hlt, b1', o1, b3]
        refine hN (k + 1) _ (by omega) ⟨by omega, by omega, ?_⟩ ?_
        · rw [hs, List.any_append, hj]; simpa using hb
        · simp -implicitDefEqProofs -dsimp only [go_sem, wrap_succ (show k < 9223372036854775807 by omega)]
    · have h2 : ¬ ((k : Int) ≤ 40) := by omega
      have h3 : ¬ (l.length : Int) ≤ 40 := by omega
      have ho : fewP l = false := by
        unfold fewP
        rw [decide_eq_false (by omega), Bool.and_false]
      simp -implicitDefEqProofs -dsimp only [go_sem, h1, h2, h3, ho]
  · have h1 : ¬ ((k : Int) < (l.length : Int)) := by omega
    have : k = l.length := by omega
    subst this
    rw [List.take_length] at hj
    have ho : fewP l = decide (l.length ≤ 40) := by
      have : (l.take 41).any badK = false := by rw [List.take_of_length_le (by omega)]; exact hj
      simp [fewP, this]
    rw [ho]
    by_cases h3 : l.length ≤ 40
    · have h4 : (l.length : Int) ≤ 40 := by omega
      simp -implicitDefEqProofs -dsimp only [go_sem, h1, h3, h4]
    · have h4 : ¬ (l.length : Int) ≤ 40 := by omega
      simp -implicitDefEqProofs -dsimp only [go_sem, h1, h3, h4]
theorem fewP_iff {l : List Kno} : fewP l = true ↔ l.length ≤ 40 ∧ ∀ x ∈ l, x.att.deps.length ≤ 40 ∧ overP [x.cmd] = false ∧ x.att.seq ≤ 1125899906842624 := by
  unfold fewP
  simp only [Bool.and_eq_true, Bool.not_eq_true', decide_eq_true_eq]
  constructor
  · rintro ⟨h1, h2⟩
    rw [List.take_of_length_le (by omega)] at h1
    refine ⟨h2, fun x hx => ?_⟩
    rw [List.any_eq_false] at h1
    have := h1 x hx
    simp only [badK, Bool.or_eq_true, decide_eq_true_eq, not_or] at this
    refine ⟨by omega, by simpa using this.1.2, by omega⟩
  · rintro ⟨h1, h2⟩
    rw [List.take_of_length_le (by omega)]
    refine ⟨?_, h1⟩
    rw [List.any_eq_false]
    intro x hx
    obtain ⟨a, b, c⟩ := h2 x hx
    simp only [badK, b, Bool.or_false, Bool.or_eq_true, decide_eq_true_eq]
    omega
theorem over1 {c : Cmd} (h : overP [c] = false) : c.path.length ≤ 300 ∧ c.value.length ≤ 300 := by
  simp only [overP, List.take_succ_cons, List.take_nil, List.any_cons, List.any_nil, Bool.or_false, bigC, Bool.or_eq_false_iff, decide_eq_false_iff_not] at h
  omega
structure KnoB (x : Kno) : Prop where
  path : x.cmd.path.length ≤ 1048576
  len : x.att.deps.length ≤ 1048576
end Go.DS
