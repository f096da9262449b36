/-
  Walks: the laws of touch.
-/
import Derived.Test.YtejkkmiaffbjbaaH8
import Derived.WalkKit
import Derived.ProofKit
import Derived.OpenShut
import Derived.ShutString
import Derived.ChangeOld
import Derived.Below
import Derived.JoinedCond
import Derived.Carry
set_option linter.unusedSimpArgs false
set_option linter.unusedVariables false
namespace Go.DS
open Go Go.Proofs
set_option maxRecDepth 100000
set_option linter.unusedVariables false
set_option linter.unusedSimpArgs false
def cd9 : Cd := .seq (R [c0 2 (.new false (.s 0)), c0 3 (.new false (.s 1)), cb 4 (.mv (.c (kb false)))] [2, 3]) (.seq (R [cb 8 (.call none (.c (kf 31)) []), cb 5 (.tk (.s 8))] [2, 3, 5]) (.seq (.seq (R [cb 9 (.mv (.s 5)), cb 10 (.un .not (.s 9))] [2, 3, 5, 10]) (.ite (.s 10) (.seq (R [cb 4 (.mv (.c (kb false)))] [2, 3, 4]) (.ret)) (.skip))) (.seq (.seq (R [c0 11 (.ld true 8 (.s 2)), c0 12 (.ld true 8 (.s 3)), c0 13 (.bsl 8 [(.s 11), (.s 12)]), cb 14 (.call none (.c (kf 32)) [(.s 13)])] [2, 3, 5, 14]) (.ite (.s 14) (.seq (R [cb 15 (.mv (.s 5)), cb 4 (.mv (.s 15))] [2, 3, 4]) (.ret)) (.skip))) (.seq (R [c0 17 (.ld true 8 (.s 2)), c0 18 (.call none (.c (kf 33)) [(.s 17)]), c0 16 (.tk (.s 18)), c0 19 (.exh (.s 16)), c0 20 (.ext (.s 16) 1), c0 6 (.tk (.s 19)), c0 7 (.tk (.s 20))] [2, 3, 5, 6, 7]) (.seq (RD [cd (some 21) true none (.mv (.s 5)) false false [5], cd (some 22) true none (.mv (.s 21)) false false [21], cd (some 23) false (some (22, true)) (.ld true 8 (.s 2)) false false [2], cd (some 24) false (some (22, true)) (.call none (.c (kf 35)) [(.s 23)]) false false [23], cd (some 25) false (some (22, true)) (.mv (.s 6)) false false [6], cd (some 26) true (some (22, true)) (.call none (.c (kf 34)) [(.s 24), (.s 25)]) false false [24, 25], cd (some 27) true none (.pick (.s 22) (.s 26) (.c (kb false))) false false [22, 26], cd (some 28) true none (.mv (.s 27)) false false [27], cd (some 29) false (some (28, true)) (.ld true 8 (.s 2)) false false [2], cd (some 30) false (some (28, true)) (.call none (.c (kf 36)) [(.s 29)]) false false [29], cd (some 31) false (some (28, true)) (.mv (.s 7)) false false [7], cd (some 32) true (some (28, true)) (.call none (.c (kf 34)) [(.s 30), (.s 31)]) false false [30, 31], cd (some 33) true none (.pick (.s 28) (.s 32) (.c (kb false))) false false [28, 32], cd (some 34) true none (.mv (.s 33)) false false [33], cd (some 35) false (some (34, true)) (.ld true 8 (.s 2)) false false [2], cd (some 36) false (some (34, true)) (.ld true 8 (.s 3)) false false [3], cd (some 37) true (some (34, true)) (.call none (.c (kf 37)) [(.s 35), (.s 36)]) false false [35, 36], cd (some 38) false (some (34, true)) (.ld true 8 (.s 2)) false false [2], cd (some 39) false (some (34, true)) (.ld true 8 (.s 3)) false false [3], cd (some 40) true (some (34, true)) (.call none (.c (kf 38)) [(.s 38), (.s 39)]) false false [38, 39], cd (some 41) true (some (34, true)) (.bin .eql .bool (.s 37) (.s 40)) false false [37, 40], cd (some 42) true none (.pick (.s 34) (.s 41) (.c (kb false))) false false [34, 41], cd (some 43) true none (.mv (.s 42)) false false [42], cd (some 44) false (some (43, true)) (.ld true 8 (.s 2)) false false [2], cd (some 45) false (some (43, true)) (.ld true 8 (.s 3)) false false [3], cd (some 46) true (some (43, true)) (.call none (.c (kf 39)) [(.s 44), (.s 45)]) false false [44, 45], cd (some 47) false (some (43, true)) (.ld true 8 (.s 2)) false false [2], cd (some 48) false (some (43, true)) (.ld true 8 (.s 3)) false false [3], cd (some 49) true (some (43, true)) (.call none (.c (kf 40)) [(.s 47), (.s 48)]) false false [47, 48], cd (some 50) true (some (43, true)) (.bin .eql .bool (.s 46) (.s 49)) false false [46, 49], cd (some 51) true none (.pick (.s 43) (.s 50) (.c (kb false))) false false [43, 50], cd (some 52) true none (.mv (.s 51)) false false [51], cd (some 53) false (some (52, true)) (.ld true 8 (.s 2)) false false [2], cd (some 54) true (some (52, true)) (.call none (.c (kf 41)) [(.s 53)]) false false [53], cd (some 55) false (some (52, true)) (.ld true 8 (.s 2)) false false [2], cd (some 56) true (some (52, true)) (.call none (.c (kf 42)) [(.s 55)]) false false [55], cd (some 57) true (some (52, true)) (.bin .eql .bool (.s 54) (.s 56)) false false [54, 56], cd (some 58) true none (.pick (.s 52) (.s 57) (.c (kb false))) false false [52, 57], cd (some 4) true none (.mv (.s 58)) false false [58]] [2, 3, 4] [2, 34, 3, 34, 2, 43, 3, 43, 2, 52]) (.ret))))))
theorem fun9 : Fun Try.prog cfg 9 59 cd9 [.s 4] := ⟨rfl, Try.f9, _, Try.func9, rfl, rfl, by kernel_rfl, by kernel_rfl⟩
@[go_sem] theorem ok9 : calleeOK Try.prog 9 = true := by kernel_rfl
@[go_sem] theorem ex9 : (cfg.ext 9).isSome = false := rfl
def cd10 : Cd := .seq (R [c0 2 (.new false (.s 0)), c0 3 (.new false (.s 1)), cb 4 (.mv (.c (kb false)))] [2, 3, 7]) (.seq (R [cb 8 (.call none (.c (kf 31)) []), cb 5 (.tk (.s 8))] [2, 3, 5, 7]) (.seq (.seq (R [cb 9 (.mv (.s 5)), cb 10 (.un .not (.s 9))] [2, 3, 5, 7, 10]) (.ite (.s 10) (.seq (R [cb 4 (.mv (.c (kb false)))] [2, 3, 4, 7]) (.ret)) (.skip))) (.seq (.seq (R [c0 11 (.ld true 8 (.s 2)), c0 12 (.ld true 8 (.s 3)), c0 13 (.bsl 8 [(.s 11), (.s 12)]), cb 14 (.call none (.c (kf 32)) [(.s 13)])] [2, 3, 5, 7, 14]) (.ite (.s 14) (.seq (R [cb 15 (.mv (.s 5)), cb 4 (.mv (.s 15))] [2, 3, 4, 7]) (.ret)) (.skip))) (.seq (R [c0 16 (.mov 2 (.s 2)), c0 17 (.ld false 1 (.s 16)), cb 18 (.bin .eql .any (.s 17) (.c (ki .i64 4))), cb 19 (.mv (.s 18)), cg 20 19 false (.mov 2 (.s 2)), cg 21 19 false (.ld false 1 (.s 20)), ch 22 19 false (.bin .eql .any (.s 21) (.c (ki .i64 5))), cb 23 (.pick (.s 19) (.c (kb true)) (.s 22)), cb 24 (.mv (.s 23)), cg 25 24 true (.mov 2 (.s 3)), cg 26 24 true (.ld false 1 (.s 25)), ch 27 24 true (.bin .eql .any (.s 26) (.c (ki .i64 4))), ch 28 24 true (.mv (.s 27)), cg 29 28 false (.mov 2 (.s 3)), cg 30 28 false (.ld false 1 (.s 29)), ch 31 28 false (.bin .eql .any (.s 30) (.c (ki .i64 5))), ch 32 24 true (.pick (.s 28) (.c (kb true)) (.s 31)), cb 33 (.pick (.s 24) (.s 32) (.c (kb false))), cb 6 (.tk (.s 33))] [2, 3, 5, 6, 7]) (.seq (R [c0 34 (.ldx false true 8 (.s 2)), c0 7 (.new false (.c (.agg [ki .i64 0, ki .i64 0, ki .i64 0, ks [], ks [], ki .i64 0, ki .i64 0, ki .i64 0]))), cn (.st 8 (.s 7) (.s 34))] [2, 3, 5, 6, 7]) (.seq (R [c0 35 (.mov 2 (.s 7)), cn (.st 1 (.s 35) (.c (ki .i64 0)))] [2, 3, 5, 6, 7]) (.seq (RD [cd (some 36) true none (.mv (.s 5)) false false [5], cd (some 37) true none (.mv (.s 36)) false false [36], cd (some 38) false (some (37, true)) (.ld true 8 (.s 2)) false false [2], cd (some 39) false (some (37, true)) (.ld true 8 (.s 3)) false false [3], cd (some 40) true (some (37, true)) (.call none (.c (kf 39)) [(.s 38), (.s 39)]) false false [38, 39], cd (some 41) false (some (37, true)) (.ld true 8 (.s 3)) false false [3], cd (some 42) false (some (37, true)) (.ld true 8 (.s 2)) false false [2], cd (some 43) true (some (37, true)) (.call none (.c (kf 39)) [(.s 41), (.s 42)]) false false [41, 42], cd (some 44) true (some (37, true)) (.bin .eql .bool (.s 40) (.s 43)) false false [40, 43], cd (some 45) true none (.pick (.s 37) (.s 44) (.c (kb false))) false false [37, 44], cd (some 46) true none (.mv (.s 45)) false false [45], cd (some 47) false (some (46, true)) (.ld true 8 (.s 2)) false false [2], cd (some 48) false (some (46, true)) (.ld true 8 (.s 3)) false false [3], cd (some 49) true (some (46, true)) (.call none (.c (kf 37)) [(.s 47), (.s 48)]) false false [47, 48], cd (some 50) false (some (46, true)) (.ld true 8 (.s 3)) false false [3], cd (some 51) false (some (46, true)) (.ld true 8 (.s 2)) false false [2], cd (some 52) true (some (46, true)) (.call none (.c (kf 37)) [(.s 50), (.s 51)]) false false [50, 51], cd (some 53) true (some (46, true)) (.bin .eql .bool (.s 49) (.s 52)) false false [49, 52], cd (some 54) true none (.pick (.s 46) (.s 53) (.c (kb false))) false false [46, 53], cd (some 55) true none (.mv (.s 54)) false false [54], cd (some 56) true (some (55, true)) (.mv (.s 6)) false false [6], cd (some 57) true (some (55, true)) (.un .not (.s 56)) false false [56], cd (some 58) true (some (55, true)) (.mv (.s 57)) false false [57], cd (some 59) false (some (58, false)) (.ld true 8 (.s 2)) false false [2], cd (some 60) false (some (58, false)) (.ld true 8 (.s 3)) false false [3], cd (some 61) true (some (58, false)) (.call none (.c (kf 39)) [(.s 59), (.s 60)]) false false [59, 60], cd (some 62) false (some (58, false)) (.mov 0 (.s 2)) false false [2], cd (some 63) false (some (58, false)) (.ld false 1 (.s 62)) false false [62], cd (some 64) false (some (58, false)) (.mov 0 (.s 3)) false false [3], cd (some 65) false (some (58, false)) (.ld false 1 (.s 64)) false false [64], cd (some 66) true (some (58, false)) (.bin .eql .any (.s 63) (.s 65)) false false [63, 65], cd (some 67) true (some (58, false)) (.bin .eql .bool (.s 61) (.s 66)) false false [61, 66], cd (some 68) true (some (55, true)) (.pick (.s 58) (.c (kb true)) (.s 67)) false false [58, 67], cd (some 69) true none (.pick (.s 55) (.s 68) (.c (kb false))) false false [55, 68], cd (some 70) true none (.mv (.s 69)) false false [69], cd (some 71) false (some (70, true)) (.ld true 8 (.s 7)) false false [7], cd (some 72) false (some (70, true)) (.ld true 8 (.s 3)) false false [3], cd (some 73) true (some (70, true)) (.call none (.c (kf 39)) [(.s 71), (.s 72)]) false false [71, 72], cd (some 74) true (some (70, true)) (.un .not (.s 73)) false false [73], cd (some 75) true none (.pick (.s 70) (.s 74) (.c (kb false))) false false [70, 74], cd (some 76) true none (.mv (.s 75)) false false [75], cd (some 77) false (some (76, true)) (.ld true 8 (.s 3)) false false [3], cd (some 78) false (some (76, true)) (.ld true 8 (.s 7)) false false [7], cd (some 79) true (some (76, true)) (.call none (.c (kf 39)) [(.s 77), (.s 78)]) false false [77, 78], cd (some 80) true (some (76, true)) (.un .not (.s 79)) false false [79], cd (some 81) true none (.pick (.s 76) (.s 80) (.c (kb false))) false false [76, 80], cd (some 4) true none (.mv (.s 81)) false false [81]] [2, 3, 4, 7] [3, 37, 2, 37, 3, 46, 2, 46, 62, 58, 64, 58]) (.ret))))))))
theorem fun10 : Fun Try.prog cfg 10 82 cd10 [.s 4] := ⟨rfl, Try.f10, _, Try.func10, rfl, rfl, by kernel_rfl, by kernel_rfl⟩
@[go_sem] theorem ok10 : calleeOK Try.prog 10 = true := by kernel_rfl
@[go_sem] theorem ex10 : (cfg.ext 10).isSome = false := rfl
def cd11 : Cd := .seq (R [c0 2 (.new false (.s 0)), c0 3 (.new false (.s 1)), cb 4 (.tk (.c (kb false)))] [2, 3]) (.seq (R [cb 16 (.call none (.c (kf 31)) []), cb 5 (.tk (.s 16))] [2, 3, 5]) (.seq (.seq (R [cb 17 (.mv (.s 5)), cb 18 (.un .not (.s 17))] [2, 3, 5, 18]) (.ite (.s 18) (.seq (R [cb 4 (.tk (.c (kb false)))] [2, 3, 4]) (.ret)) (.skip))) (.seq (.seq (R [c0 19 (.ld true 8 (.s 2)), c0 20 (.ld true 8 (.s 3)), c0 21 (.bsl 8 [(.s 19), (.s 20)]), cb 22 (.call none (.c (kf 32)) [(.s 21)])] [2, 3, 5, 22]) (.ite (.s 22) (.seq (R [cb 23 (.tk (.s 5)), cb 4 (.tk (.s 23))] [2, 3, 4]) (.ret)) (.skip))) (.seq (R [c0 24 (.ld true 8 (.s 2)), c0 25 (.call none (.c (kf 35)) [(.s 24)]), c0 6 (.tk (.s 25))] [2, 3, 5, 6]) (.seq (R [c0 26 (.ld true 8 (.s 2)), c0 27 (.call none (.c (kf 36)) [(.s 26)]), c0 7 (.tk (.s 27))] [2, 3, 5, 6, 7]) (.seq (R [c0 28 (.ld true 8 (.s 3)), c0 29 (.call none (.c (kf 35)) [(.s 28)]), c0 8 (.tk (.s 29))] [2, 3, 5, 6, 7, 8]) (.seq (R [c0 30 (.ld true 8 (.s 3)), c0 31 (.call none (.c (kf 36)) [(.s 30)]), c0 9 (.tk (.s 31))] [2, 3, 5, 6, 7, 8, 9]) (.seq (R [cb 10 (.mv (.c (kb false)))] [2, 3, 5, 6, 7, 8, 9, 10]) (.seq (.seq (R [c0 11 (.tk (.c (ki .i64 0)))] [2, 3, 5, 6, 7, 8, 9, 10, 11]) (.block 0 (LP [2, 3, 5, 6, 7, 8, 9, 10, 11] (.seq (.seq (R [c0 32 (.mv (.s 11)), c0 33 (.mv (.s 7)), c0 34 (.len 1 (.s 33)), cb 35 (.bin .lss .any (.s 32) (.s 34))] [2, 3, 5, 6, 7, 8, 9, 10, 11, 35]) (.ite (.s 35) (.skip) (.exit 0))) (.seq (.block 1 (.seq (.seq (R [c0 12 (.tk (.c (ki .i64 0)))] [2, 3, 5, 6, 7, 8, 9, 10, 11, 12]) (.block 2 (LP [2, 3, 5, 6, 7, 8, 9, 10, 11, 12] (.seq (.seq (R [c0 38 (.mv (.s 12)), c0 39 (.mv (.s 8)), c0 40 (.len 1 (.s 39)), cb 41 (.bin .lss .any (.s 38) (.s 40))] [2, 3, 5, 6, 7, 8, 9, 10, 11, 12, 41]) (.ite (.s 41) (.skip) (.exit 2))) (.seq (.block 3 (RD [cd (some 44) true none (.mv (.s 10)) false false [10], cd (some 45) true none (.mv (.s 44)) false false [44], cd (some 46) false (some (45, false)) (.mv (.s 7)) false false [7], cd (some 47) false (some (45, false)) (.mv (.s 11)) false false [11], cd (some 48) false (some (45, false)) (.ixp 2 (.s 46) (.s 47)) false false [46, 47], cd (some 49) false (some (45, false)) (.ld true 2 (.s 48)) false false [48], cd (some 50) false (some (45, false)) (.mv (.s 8)) false false [8], cd (some 51) false (some (45, false)) (.mv (.s 12)) false false [12], cd (some 52) false (some (45, false)) (.ixp 2 (.s 50) (.s 51)) false false [50, 51], cd (some 53) false (some (45, false)) (.ld true 2 (.s 52)) false false [52], cd (some 54) true (some (45, false)) (.bin .eql (.flat [2, 0]) (.s 49) (.s 53)) false false [49, 53], cd (some 55) true none (.pick (.s 45) (.c (kb true)) (.s 54)) false false [45, 54], cd (some 10) true none (.mv (.s 55)) false false [55]] [2, 3, 5, 6, 7, 8, 9, 10, 11, 12] [])) (R [c0 42 (.mv (.s 12)), c0 43 (.bin .add .any (.s 42) (.c (ki .i64 1))), c0 12 (.tk (.s 43))] [2, 3, 5, 6, 7, 8, 9, 10, 11, 12])))))) (.seq (R [c0 13 (.tk (.c (ki .i64 0)))] [2, 3, 5, 6, 7, 8, 9, 10, 11, 13]) (.block 4 (LP [2, 3, 5, 6, 7, 8, 9, 10, 11, 13] (.seq (.seq (R [c0 56 (.mv (.s 13)), c0 57 (.mv (.s 9)), c0 58 (.len 1 (.s 57)), cb 59 (.bin .lss .any (.s 56) (.s 58))] [2, 3, 5, 6, 7, 8, 9, 10, 11, 13, 59]) (.ite (.s 59) (.skip) (.exit 4))) (.seq (.block 5 (RD [cd (some 62) true none (.mv (.s 10)) false false [10], cd (some 63) true none (.mv (.s 62)) false false [62], cd (some 64) false (some (63, false)) (.mv (.s 7)) false false [7], cd (some 65) false (some (63, false)) (.mv (.s 11)) false false [11], cd (some 66) false (some (63, false)) (.ixp 2 (.s 64) (.s 65)) false false [64, 65], cd (some 67) false (some (63, false)) (.ld true 2 (.s 66)) false false [66], cd (some 68) false (some (63, false)) (.mv (.s 9)) false false [9], cd (some 69) false (some (63, false)) (.mv (.s 13)) false false [13], cd (some 70) false (some (63, false)) (.ixp 2 (.s 68) (.s 69)) false false [68, 69], cd (some 71) false (some (63, false)) (.ld true 2 (.s 70)) false false [70], cd (some 72) true (some (63, false)) (.bin .eql (.flat [2, 0]) (.s 67) (.s 71)) false false [67, 71], cd (some 73) true none (.pick (.s 63) (.c (kb true)) (.s 72)) false false [63, 72], cd (some 10) true none (.mv (.s 73)) false false [73]] [2, 3, 5, 6, 7, 8, 9, 10, 11, 13] [])) (R [c0 60 (.mv (.s 13)), c0 61 (.bin .add .any (.s 60) (.c (ki .i64 1))), c0 13 (.tk (.s 61))] [2, 3, 5, 6, 7, 8, 9, 10, 11, 13])))))))) (R [c0 36 (.mv (.s 11)), c0 37 (.bin .add .any (.s 36) (.c (ki .i64 1))), c0 11 (.tk (.s 37))] [2, 3, 5, 6, 7, 8, 9, 10, 11])))))) (.seq (.seq (R [c0 14 (.tk (.c (ki .i64 0)))] [2, 3, 5, 6, 9, 10, 14]) (.block 6 (LP [2, 3, 5, 6, 9, 10, 14] (.seq (.seq (R [c0 74 (.mv (.s 14)), c0 75 (.mv (.s 6)), c0 76 (.len 1 (.s 75)), cb 77 (.bin .lss .any (.s 74) (.s 76))] [2, 3, 5, 6, 9, 10, 14, 77]) (.ite (.s 77) (.skip) (.exit 6))) (.seq (.block 7 (.seq (R [c0 15 (.tk (.c (ki .i64 0)))] [2, 3, 5, 6, 9, 10, 14, 15]) (.block 8 (LP [2, 3, 5, 6, 9, 10, 14, 15] (.seq (.seq (R [c0 80 (.mv (.s 15)), c0 81 (.mv (.s 9)), c0 82 (.len 1 (.s 81)), cb 83 (.bin .lss .any (.s 80) (.s 82))] [2, 3, 5, 6, 9, 10, 14, 15, 83]) (.ite (.s 83) (.skip) (.exit 8))) (.seq (.block 9 (RD [cd (some 86) true none (.mv (.s 10)) false false [10], cd (some 87) true none (.mv (.s 86)) false false [86], cd (some 88) false (some (87, false)) (.mv (.s 6)) false false [6], cd (some 89) false (some (87, false)) (.mv (.s 14)) false false [14], cd (some 90) false (some (87, false)) (.ixp 2 (.s 88) (.s 89)) false false [88, 89], cd (some 91) false (some (87, false)) (.ld true 2 (.s 90)) false false [90], cd (some 92) false (some (87, false)) (.mv (.s 9)) false false [9], cd (some 93) false (some (87, false)) (.mv (.s 15)) false false [15], cd (some 94) false (some (87, false)) (.ixp 2 (.s 92) (.s 93)) false false [92, 93], cd (some 95) false (some (87, false)) (.ld true 2 (.s 94)) false false [94], cd (some 96) true (some (87, false)) (.bin .eql (.flat [2, 0]) (.s 91) (.s 95)) false false [91, 95], cd (some 97) true none (.pick (.s 87) (.c (kb true)) (.s 96)) false false [87, 96], cd (some 10) true none (.mv (.s 97)) false false [97]] [2, 3, 5, 6, 9, 10, 14, 15] [])) (R [c0 84 (.mv (.s 15)), c0 85 (.bin .add .any (.s 84) (.c (ki .i64 1))), c0 15 (.tk (.s 85))] [2, 3, 5, 6, 9, 10, 14, 15]))))))) (R [c0 78 (.mv (.s 14)), c0 79 (.bin .add .any (.s 78) (.c (ki .i64 1))), c0 14 (.tk (.s 79))] [2, 3, 5, 6, 9, 10, 14])))))) (.seq (R [cb 98 (.mv (.s 5)), cb 99 (.mv (.s 98)), cg 100 99 true (.ld true 8 (.s 2)), cg 101 99 true (.ld true 8 (.s 3)), ch 102 99 true (.call none (.c (kf 37)) [(.s 100), (.s 101)]), ch 103 99 true (.mv (.s 10)), ch 104 99 true (.bin .eql .bool (.s 102) (.s 103)), cb 105 (.pick (.s 99) (.s 104) (.c (kb false))), cb 4 (.tk (.s 105))] [2, 3, 4]) (.ret))))))))))))
theorem fun11 : Fun Try.prog cfg 11 106 cd11 [.s 4] := ⟨rfl, Try.f11, _, Try.func11, rfl, rfl, by kernel_rfl, by kernel_rfl⟩
@[go_sem] theorem ok11 : calleeOK Try.prog 11 = true := by kernel_rfl
@[go_sem] theorem ex11 : (cfg.ext 11).isSome = false := rfl
def cd12 : Cd := .seq (R [c0 1 (.new false (.s 0)), cb 2 (.tk (.c (kb false)))] [1]) (.seq (R [cb 11 (.call none (.c (kf 31)) []), cb 3 (.tk (.s 11))] [1, 3]) (.seq (.seq (R [cb 12 (.mv (.s 3)), cb 13 (.un .not (.s 12))] [1, 3, 13]) (.ite (.s 13) (.seq (R [cb 2 (.tk (.c (kb false)))] [1, 2]) (.ret)) (.skip))) (.seq (.seq (R [c0 14 (.ld true 8 (.s 1)), c0 15 (.bsl 8 [(.s 14)]), cb 16 (.call none (.c (kf 32)) [(.s 15)])] [1, 3, 16]) (.ite (.s 16) (.seq (R [cb 17 (.tk (.s 3)), cb 2 (.tk (.s 17))] [1, 2]) (.ret)) (.skip))) (.seq (R [c0 18 (.ld true 8 (.s 1)), c0 19 (.call none (.c (kf 35)) [(.s 18)]), c0 4 (.tk (.s 19))] [1, 3, 4]) (.seq (R [c0 20 (.ld true 8 (.s 1)), c0 21 (.call none (.c (kf 36)) [(.s 20)]), c0 5 (.tk (.s 21))] [1, 3, 4, 5]) (.seq (R [c0 6 (.tk (.c (kn 2)))] [1, 3, 4, 5, 6]) (.seq (R [c0 22 (.tk (.s 6)), c0 23 (.mv (.s 4)), c0 24 (.app 2 27 false (.s 22) (.s 23)), c0 6 (.tk (.s 24))] [1, 3, 4, 5, 6]) (.seq (R [c0 25 (.tk (.s 6)), c0 26 (.mv (.s 5)), c0 27 (.app 2 27 false (.s 25) (.s 26)), c0 6 (.tk (.s 27))] [1, 3, 4, 5, 6]) (.seq (.seq (R [c0 7 (.tk (.c (ki .i64 0)))] [1, 3, 4, 5, 6, 7]) (.block 0 (LP [1, 3, 4, 5, 6, 7] (.seq (.seq (R [c0 28 (.mv (.s 7)), c0 29 (.mv (.s 6)), c0 30 (.len 1 (.s 29)), cb 31 (.bin .lss .any (.s 28) (.s 30))] [1, 3, 4, 5, 6, 7, 31]) (.ite (.s 31) (.skip) (.exit 0))) (.seq (.block 1 (.seq (.seq (RD [cd (some 34) false none (.mv (.s 6)) false false [6], cd (some 35) false none (.mv (.s 7)) false false [7], cd (some 36) false none (.ixp 2 (.s 34) (.s 35)) false false [34, 35], cd (some 37) false none (.mov 0 (.s 36)) false false [36], cd (some 38) false none (.ld false 1 (.s 37)) false false [37], cd (some 39) false none (.mov 3 (.s 1)) false false [1], cd (some 40) false none (.ld false 1 (.s 39)) false false [39], cd (some 41) true none (.bin .neq .any (.s 38) (.s 40)) false false [38, 40], cd (some 42) true none (.mv (.s 41)) false false [41], cd (some 43) false (some (42, true)) (.mv (.s 6)) false false [6], cd (some 44) false (some (42, true)) (.mv (.s 7)) false false [7], cd (some 45) false (some (42, true)) (.ixp 2 (.s 43) (.s 44)) false false [43, 44], cd (some 46) false (some (42, true)) (.mov 0 (.s 45)) false false [45], cd (some 47) false (some (42, true)) (.ld false 1 (.s 46)) false false [46], cd (some 48) false (some (42, true)) (.mov 3 (.s 1)) false false [1], cd (some 49) false (some (42, true)) (.ld false 1 (.s 48)) false false [48], cd (some 50) false (some (42, true)) (.call none (.c (kf 21)) [(.s 49)]) false false [49], cd (some 51) true (some (42, true)) (.bin .neq .any (.s 47) (.s 50)) false false [47, 50], cd (some 52) true none (.pick (.s 42) (.s 51) (.c (kb false))) false false [42, 51], cd (some 53) true none (.mv (.s 52)) false false [52], cd (some 54) false (some (53, false)) (.mv (.s 6)) false false [6], cd (some 55) false (some (53, false)) (.mv (.s 7)) false false [7], cd (some 56) false (some (53, false)) (.ixp 2 (.s 54) (.s 55)) false false [54, 55], cd (some 57) false (some (53, false)) (.mov 1 (.s 56)) false false [56], cd (some 58) false (some (53, false)) (.ld false 1 (.s 57)) false false [57], cd (some 59) true (some (53, false)) (.bin .neq .any (.s 58) (.c (ki .u8 101))) false false [58], cd (some 60) true (some (53, false)) (.mv (.s 59)) false false [59], cd (some 61) false (some (60, true)) (.mv (.s 6)) false false [6], cd (some 62) false (some (60, true)) (.mv (.s 7)) false false [7], cd (some 63) false (some (60, true)) (.ixp 2 (.s 61) (.s 62)) false false [61, 62], cd (some 64) false (some (60, true)) (.mov 1 (.s 63)) false false [63], cd (some 65) false (some (60, true)) (.ld false 1 (.s 64)) false false [64], cd (some 66) true (some (60, true)) (.bin .neq .any (.s 65) (.c (ki .u8 118))) false false [65], cd (some 67) true (some (53, false)) (.pick (.s 60) (.s 66) (.c (kb false))) false false [60, 66], cd (some 68) true (some (53, false)) (.mv (.s 67)) false false [67], cd (some 69) false (some (68, true)) (.mv (.s 6)) false false [6], cd (some 70) false (some (68, true)) (.mv (.s 7)) false false [7], cd (some 71) false (some (68, true)) (.ixp 2 (.s 69) (.s 70)) false false [69, 70], cd (some 72) false (some (68, true)) (.mov 1 (.s 71)) false false [71], cd (some 73) false (some (68, true)) (.ld false 1 (.s 72)) false false [72], cd (some 74) true (some (68, true)) (.bin .neq .any (.s 73) (.c (ki .u8 107))) false false [73], cd (some 75) true (some (53, false)) (.pick (.s 68) (.s 74) (.c (kb false))) false false [68, 74], cd (some 76) true none (.pick (.s 53) (.c (kb true)) (.s 75)) false false [53, 75]] [1, 3, 4, 5, 6, 7, 76] [46, 42]) (.ite (.s 76) (.seq (R [cb 2 (.tk (.c (kb false)))] [1, 2]) (.ret)) (.skip))) (.seq (R [c0 8 (.tk (.c (ki .i64 0)))] [1, 3, 4, 5, 6, 7, 8]) (.block 2 (LP [1, 3, 4, 5, 6, 7, 8] (.seq (.seq (R [c0 77 (.mv (.s 8)), c0 78 (.mv (.s 7)), cb 79 (.bin .lss .any (.s 77) (.s 78))] [1, 3, 4, 5, 6, 7, 8, 79]) (.ite (.s 79) (.skip) (.exit 2))) (.seq (.block 3 (.seq (R [c0 82 (.mv (.s 7)), c0 83 (.mv (.s 4)), c0 84 (.len 1 (.s 83)), cb 85 (.bin .lss .any (.s 82) (.s 84)), cb 86 (.mv (.s 85)), cg 87 86 false (.mv (.s 8)), cg 88 86 false (.mv (.s 4)), cg 89 86 false (.len 1 (.s 88)), ch 90 86 false (.bin .geq .any (.s 87) (.s 89)), cb 91 (.pick (.s 86) (.c (kb true)) (.s 90)), cb 9 (.tk (.s 91))] [1, 3, 4, 5, 6, 7, 8, 9]) (.seq (RD [cd (some 92) true none (.mv (.s 9)) false false [9], cd (some 93) true none (.mv (.s 92)) false false [92], cd (some 94) false (some (93, true)) (.mv (.s 6)) false false [6], cd (some 95) false (some (93, true)) (.mv (.s 7)) false false [7], cd (some 96) false (some (93, true)) (.ixp 2 (.s 94) (.s 95)) false false [94, 95], cd (some 97) false (some (93, true)) (.ld true 2 (.s 96)) false false [96], cd (some 98) false (some (93, true)) (.mv (.s 6)) false false [6], cd (some 99) false (some (93, true)) (.mv (.s 8)) false false [8], cd (some 100) false (some (93, true)) (.ixp 2 (.s 98) (.s 99)) false false [98, 99], cd (some 101) false (some (93, true)) (.ld true 2 (.s 100)) false false [100], cd (some 102) true (some (93, true)) (.bin .eql (.flat [2, 0]) (.s 97) (.s 101)) false false [97, 101], cd (some 103) true none (.pick (.s 93) (.s 102) (.c (kb false))) false false [93, 102]] [1, 3, 4, 5, 6, 7, 8, 103] []) (.ite (.s 103) (.seq (R [cb 2 (.tk (.c (kb false)))] [1, 2]) (.ret)) (.skip))))) (R [c0 80 (.mv (.s 8)), c0 81 (.bin .add .any (.s 80) (.c (ki .i64 1))), c0 8 (.tk (.s 81))] [1, 3, 4, 5, 6, 7, 8])))))))) (R [c0 32 (.mv (.s 7)), c0 33 (.bin .add .any (.s 32) (.c (ki .i64 1))), c0 7 (.tk (.s 33))] [1, 3, 4, 5, 6, 7])))))) (.seq (R [c0 104 (.mov 2 (.s 1)), c0 105 (.ld false 1 (.s 104)), cb 106 (.bin .eql .any (.s 105) (.c (ki .i64 4))), cb 107 (.mv (.s 106)), cg 108 107 false (.mov 2 (.s 1)), cg 109 107 false (.ld false 1 (.s 108)), ch 110 107 false (.bin .eql .any (.s 109) (.c (ki .i64 5))), cb 111 (.pick (.s 107) (.c (kb true)) (.s 110)), cb 10 (.tk (.s 111))] [1, 3, 5, 6, 10]) (.seq (R [cb 112 (.mv (.s 3)), cb 113 (.mv (.s 112)), ch 114 113 true (.mv (.s 10)), ch 115 113 true (.un .not (.s 114)), ch 116 113 true (.mv (.s 115)), cg 117 116 false (.mv (.s 5)), cg 118 116 false (.len 1 (.s 117)), ch 119 116 false (.bin .eql .any (.s 118) (.c (ki .i64 0))), ch 120 113 true (.pick (.s 116) (.c (kb true)) (.s 119)), cb 121 (.pick (.s 113) (.s 120) (.c (kb false))), cb 122 (.mv (.s 121)), cg 123 122 true (.mov 3 (.s 1)), cg 124 122 true (.ld false 1 (.s 123)), ch 125 122 true (.call none (.c (kf 14)) [(.s 124)]), ch 126 122 true (.mv (.s 125)), cg 127 126 false (.mv (.s 6)), cg 128 126 false (.len 1 (.s 127)), ch 129 126 false (.bin .eql .any (.s 128) (.c (ki .i64 0))), ch 130 122 true (.pick (.s 126) (.c (kb true)) (.s 129)), cb 131 (.pick (.s 122) (.s 130) (.c (kb false))), cb 2 (.tk (.s 131))] [1, 2]) (.ret))))))))))))
theorem fun12 : Fun Try.prog cfg 12 132 cd12 [.s 2] := ⟨rfl, Try.f12, _, Try.func12, rfl, rfl, by kernel_rfl, by kernel_rfl⟩
@[go_sem] theorem ok12 : calleeOK Try.prog 12 = true := by kernel_rfl
@[go_sem] theorem ex12 : (cfg.ext 12).isSome = false := rfl
variable {h : DHeap}
theorem both_comm (a b : Cmd) : bothB a b = bothB b a := by
  unfold bothB
  rw [paths_comm a b]
  by_cases h1 : a.op = 0 <;> by_cases h2 : b.op = 0 <;> simp [h1, h2, Bool.or_comm, Bool.or_left_comm, eq_comm]
theorem both_reads (a b : Cmd) (ha : a.op = 4 ∨ a.op = 5) (hb : b.op = 4 ∨ b.op = 5) : bothB a b = decide (a.client = b.client) := by
  have h1 : ∀ c : Cmd, (c.op = 4 ∨ c.op = 5) → (usesP c).2 = [] := by
    intro c hc
    unfold usesP
    split
    · rfl
    · rcases hc with hc | hc
      · rw [if_pos hc]
      · rw [if_neg (by omega), if_pos hc]
  have h2 : ∀ c : Cmd, (c.op = 4 ∨ c.op = 5) → controlB c = false := by
    intro c hc
    unfold controlB
    rw [Bool.and_eq_false_iff]
    left
    rw [decide_eq_false_iff_not]
    omega
  unfold bothB pathsB
  rw [if_neg (by omega), h1 a ha, h1 b hb, h2 a ha, h2 b hb]
  simp [spoilsP]
set_option maxHeartbeats 4000000 in
theorem touchTells_lim (a b : Cmd) (ha : a.path.length ≤ 1048575) (hb : b.path.length ≤ 1048575) : lim Try.prog cfg 9 [cmdD a, cmdD b] h = some (vb true, h) := by
  refine lim_funp fun9 rfl (by simp) rfl rfl ?_
  delta cd9
  have w := works8_lim (h := [])
  have o := over_lim (h := []) false [a, b] (by simp)
  simp only [cms, List.map_cons, List.map_nil] at o
  have c1 := rcells_lim (h := []) a ha
  have r1 := reads_lim (h := []) a (by omega)
  have r2 := writes_lim (h := []) a (by omega)
  have la := uses_le a
  have x1 := cells_lim (h := []) false false (usesP a).1 (usesP a).1 (by omega)
  have x2 := cells_lim (h := []) false false (usesP a).2 (usesP a).2 (by omega)
  have p1 := paths_lim (h := []) a b (by omega) (by omega)
  have p2 := rpaths_lim (h := []) a b ha hb
  have b1 := both_lim (h := []) a b (by omega) (by omega)
  have b2 := rboth_lim (h := []) a b ha hb
  have k1 := control_lim (h := []) a
  have k2 := rcontrol_lim (h := []) a
  generalize overP [a, b] = z at o
  generalize pathsB a b = p at p1 p2
  generalize bothB a b = q at b1 b2
  generalize controlB a = r at k1 k2
  cases z
  · cases p <;> cases q <;> cases r <;> simp -implicitDefEqProofs -dsimp only [go_sem, w, o, c1, r1, r2, x1, x2, p1, p2, b1, b2, k1, k2]
  · simp -implicitDefEqProofs -dsimp only [go_sem, w, o]
set_option maxHeartbeats 4000000 in
theorem touchBoth_lim (a b : Cmd) (ha : a.path.length ≤ 1048575) (hb : b.path.length ≤ 1048575) : lim Try.prog cfg 10 [cmdD a, cmdD b] h = some (vb true, h) := by
  refine lim_funp fun10 rfl (by simp) rfl rfl ?_
  delta cd10
  have w := works8_lim (h := [])
  have o := over_lim (h := []) false [a, b] (by simp)
  simp only [cms, List.map_cons, List.map_nil] at o
  let e : Cmd := { a with op := 0 }
  have b1 := both_lim (h := []) a b (by omega) (by omega)
  have b2 := both_lim (h := []) b a (by omega) (by omega)
  have p1 := paths_lim (h := []) a b (by omega) (by omega)
  have p2 := paths_lim (h := []) b a (by omega) (by omega)
  have e1 := both_lim (h := []) e b (by show a.path.length ≤ _; omega) (by omega)
  have e2 := both_lim (h := []) b e (by omega) (by show a.path.length ≤ _; omega)
  have f1 : bothB e b = false := if_pos (.inl rfl)
  have f2 : bothB b e = false := if_pos (.inr rfl)
  rw [f1] at e1
  rw [f2] at e2
  rw [paths_comm b a] at p2
  rw [both_comm b a] at b2
  have hr := both_reads a b
  generalize overP [a, b] = z at o
  generalize pathsB a b = p at p1 p2
  generalize bothB a b = q at b1 b2 hr
  simp only [e] at e1 e2
  clear f1 f2 e
  obtain ⟨ac, asq, ao, ap, av, ar, aa, ab⟩ := a
  obtain ⟨bc, bq, bo, bp, bv, br, ba, bb⟩ := b
  dsimp only at o b1 b2 p1 p2 e1 e2 hr
  cases z
  · by_cases hw : (ao = 4 ∨ ao = 5) ∧ (bo = 4 ∨ bo = 5)
    · have hq := hr hw.1 hw.2
      rcases hw with ⟨rfl | rfl, rfl | rfl⟩
      all_goals
        cases p <;> cases q <;> simp -implicitDefEqProofs -dsimp only [go_sem, w, o, b1, b2, p1, p2, e1, e2] <;> simp_all
    · clear hr
      by_cases a4 : ao = 4
      · subst a4
        have b4 : ¬ bo = 4 := fun e => hw ⟨.inl rfl, .inl e⟩
        have b5 : ¬ bo = 5 := fun e => hw ⟨.inl rfl, .inr e⟩
        cases p <;> cases q <;> simp -implicitDefEqProofs -dsimp only [go_sem, w, o, b1, b2, p1, p2, e1, e2, b4, b5]
      by_cases a5 : ao = 5
      · subst a5
        have b4 : ¬ bo = 4 := fun e => hw ⟨.inr rfl, .inl e⟩
        have b5 : ¬ bo = 5 := fun e => hw ⟨.inr rfl, .inr e⟩
        cases p <;> cases q <;> simp -implicitDefEqProofs -dsimp only [go_sem, w, o, b1, b2, p1, p2, e1, e2, b4, b5]
      · cases p <;> cases q <;> simp -implicitDefEqProofs -dsimp only [go_sem, w, o, b1, b2, p1, p2, e1, e2, a4, a5]
  · simp -implicitDefEqProofs -dsimp only [go_sem, w, o]
end Go.DS

/-
  The row TouchBoth.
-/
namespace Go.Proofs.Ytejkkmiaffbjbaa.touchBoth
open Go.ChangeShapes Go.WideShapes Go.ChangeAt Go.RowKit
open Go.ChangeMaps (open_string shut_string)
open Go.DS
set_option linter.unusedVariables false
set_option linter.unusedSimpArgs false

theorem contract (H : Type) (enc : TypeId × Value → H) (W : World) (base : Nat) (args : Array Value) (ds gs : List (DataW H)) (before : List MemPlace)
    (hval0 : ∀ (j : Nat) t v, Try.f10.params[j]? = some t → args[j]? = some v → Value.okWide Try.prog W .any base t v)
    (hW : DataW.Whole enc Try.prog Try.f10.params.toList Rows.touchBothSpec.vars false W args.toList ds gs before) (hk : Rows.uptoSmall H (ds ++ gs) = true) :
    Calls Try.prog 10 args W fun e W' => ∃ v, e = .returned v ∧ Rows.touchBothSpec.post enc Try.prog Try.f10 false true false false W args v W' := by
  have hval : ∀ (j : Nat) t v, Try.f10.params[j]? = some t → args[j]? = some v → Value.okWide Try.prog W .any base t v := hval0
  have hW' := hW
  obtain ⟨p, q, hA0, hV, rfl, hfz, hnd⟩ := hW
  have hA : DataW.TrodAll enc Try.prog W 0 (fun _ => true) true Try.f10.params.toList args.toList ds p := hA0
  rw [Try.params10] at hA hval
  obtain ⟨v0, vs0, d0, ds0, p0, q0, hargs, rfl, rfl, h0, r0⟩ := trodAll_cons hA
  obtain ⟨v1, vs1, d1, ds1, p1, q1, rfl, rfl, rfl, h1, r1⟩ := trodAll_cons r0
  obtain ⟨rfl, rfl, rfl⟩ := trodAll_nil r1
  obtain rfl : args = #[v0, v1] := by cases args; simp_all
  obtain ⟨rfl, rfl⟩ := trodVars_none hV
  have lt0 : ∀ x ∈ p0, x.block < W.heap.size := by obtain ⟨m, hm⟩ := h0; exact DataW.trod_lt m _ _ _ hm
  have k0 := h0
  obtain ⟨a0, y0, b0⟩ := arg_cmd (B := 1048575) (hval 0 39 v0 rfl rfl) h0 (by have hb := of_decide_eq_true hk; simp only [Rows.uptoBulkAll, List.append_nil, List.cons_append, List.nil_append] at hb; omega)
  have lt1 : ∀ x ∈ p1, x.block < W.heap.size := by obtain ⟨m, hm⟩ := h1; exact DataW.trod_lt m _ _ _ hm
  have k1 := h1
  obtain ⟨a1, y1, b1⟩ := arg_cmd (B := 1048575) (hval 1 39 v1 rfl rfl) h1 (by have hb := of_decide_eq_true hk; simp only [Rows.uptoBulkAll, List.append_nil, List.cons_append, List.nil_append] at hb; omega)
  clear hA0 hval0
  have hb := of_decide_eq_true hk
  simp only [Rows.uptoBulkAll, Rows.uptoBulk, List.append_nil] at hb
  refine (Go.DS.start ext_ok (touchBoth_lim a0 a1 b0.path b1.path) W (vs := #[v0, v1]) (.cons (y0) (.cons (y1) (.nil _)))).mono fun e W' ⟨he, bel⟩ => ?_
  subst he
  exact ⟨_, rfl, _, _, _, [], _, [], hW', trodAll_mk1 (shut_bool Try.underlying4 _), (trodAll_cons_mk (Below.trod laidOut' (by kernel_rfl) (of_decide_eq_true (by kernel_rfl)) k0 bel lt0) (trodAll_cons_mk (Below.trod laidOut' (by kernel_rfl) (of_decide_eq_true (by kernel_rfl)) k1 bel lt1) trodAll_mk0)), rfl, bel.frame _, fun h => by cases h⟩

set_option maxRecDepth 100000 in
theorem lifted (os : Os) (started : os.Started) (H : Type) (enc : TypeId × Value → H) (F : Stop.Interp) :
    ReturnsInHanded {} Try.checked os 10 .any ((Rows.OpenSpec.upto Rows.touchBothSpec).pre6 enc Try.prog Try.f10 Rows.touchBothUptoRow.domain false) (((Rows.OpenSpec.upto Rows.touchBothSpec).at F).post enc Try.prog Try.f10 false true false false) := by
  refine returnsInHanded_of_cond (C := Try.checked) (s := Rows.OpenSpec.upto Rows.touchBothSpec) (k := Rows.uptoSmall) rfl own' started (by kernel_rfl) Try.func10
    (OpenSpec.witness (enc := enc) (C := Try.checked) (s := Rows.OpenSpec.upto Rows.touchBothSpec) (k := Rows.uptoSmall) rfl false ⟨#[], #[.agg #[.int .i64 0, .int .i64 0, .int .i64 0, .string ByteArray.empty, .string ByteArray.empty, .int .i64 0, .int .i64 0, .int .i64 0], .agg #[.int .i64 0, .int .i64 0, .int .i64 0, .string ByteArray.empty, .string ByteArray.empty, .int .i64 0, .int .i64 0, .int .i64 0]], []⟩ 8 (by kernel_rfl) (by kernel_rfl) (by kernel_rfl)
      (x := ([.agg [.lit (.int .i64 0), .lit (.int .i64 0), .lit (.int .i64 0), .lit (.string []), .lit (.string []), .lit (.int .i64 0), .lit (.int .i64 0), .lit (.int .i64 0)], .agg [.lit (.int .i64 0), .lit (.int .i64 0), .lit (.int .i64 0), .lit (.string []), .lit (.string []), .lit (.int .i64 0), .lit (.int .i64 0), .lit (.int .i64 0)]], [], [])) (by kernel_rfl) rfl (by kernel_rfl)) ?_
  intro W base args ds gs before hval hW _ hk _
  exact contract H enc W base args ds gs before hval hW hk

theorem over : Rows.touchBothUptoRow.holds Try.pinned (Rows.OpenSpec.upto Rows.touchBothSpec) :=
  OpenClaim.holds_of_cond 10 Try.f10 rfl rfl rfl rfl rfl rfl rfl ⟨rfl, rfl, rfl, rfl, rfl⟩ rfl rfl rfl rfl rfl (by kernel_rfl) Try.func10 (by kernel_rfl)
    (of_decide_eq_true (by kernel_rfl)) (by unfold Func.isWrapper; first | (rw [if_pos (by decide +kernel)]; kernel_rfl) | (rw [if_neg (by decide +kernel)]; exact ⟨rfl, rfl⟩))
    (fun os started H enc _ F => lifted os started H enc F)

theorem proved : Rows.TouchBothUptoSaid := over
#print axioms proved
end Go.Proofs.Ytejkkmiaffbjbaa.touchBoth
namespace Go.Proofs.Ytejkkmiaffbjbaa
theorem touchBoth_holds : Rows.TouchBothUptoSaid := touchBoth.proved
end Go.Proofs.Ytejkkmiaffbjbaa
