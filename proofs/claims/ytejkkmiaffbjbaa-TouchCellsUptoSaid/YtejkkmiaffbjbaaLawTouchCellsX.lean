/-
  Walks: the laws of touch, cell by cell.
-/
import Derived.Test.YtejkkmiaffbjbaaH8
import Derived.WalkKit
import Derived.ProofKit
import Derived.OpenShut
import Derived.ShutString
import Derived.ChangeOld
import Derived.Below
import Derived.JoinedCond
import Derived.Carry
set_option linter.unusedSimpArgs false
set_option linter.unusedVariables false
namespace Go.DS
open Go Go.Proofs
set_option maxRecDepth 100000
set_option linter.unusedVariables false
set_option linter.unusedSimpArgs false
def cd11 : Cd := .seq (R [c0 2 (.new false (.s 0)), c0 3 (.new false (.s 1)), cb 4 (.tk (.c (kb false)))] [2, 3]) (.seq (R [cb 16 (.call none (.c (kf 31)) []), cb 5 (.tk (.s 16))] [2, 3, 5]) (.seq (.seq (R [cb 17 (.mv (.s 5)), cb 18 (.un .not (.s 17))] [2, 3, 5, 18]) (.ite (.s 18) (.seq (R [cb 4 (.tk (.c (kb false)))] [2, 3, 4]) (.ret)) (.skip))) (.seq (.seq (R [c0 19 (.ld true 8 (.s 2)), c0 20 (.ld true 8 (.s 3)), c0 21 (.bsl 8 [(.s 19), (.s 20)]), cb 22 (.call none (.c (kf 32)) [(.s 21)])] [2, 3, 5, 22]) (.ite (.s 22) (.seq (R [cb 23 (.tk (.s 5)), cb 4 (.tk (.s 23))] [2, 3, 4]) (.ret)) (.skip))) (.seq (R [c0 24 (.ld true 8 (.s 2)), c0 25 (.call none (.c (kf 35)) [(.s 24)]), c0 6 (.tk (.s 25))] [2, 3, 5, 6]) (.seq (R [c0 26 (.ld true 8 (.s 2)), c0 27 (.call none (.c (kf 36)) [(.s 26)]), c0 7 (.tk (.s 27))] [2, 3, 5, 6, 7]) (.seq (R [c0 28 (.ld true 8 (.s 3)), c0 29 (.call none (.c (kf 35)) [(.s 28)]), c0 8 (.tk (.s 29))] [2, 3, 5, 6, 7, 8]) (.seq (R [c0 30 (.ld true 8 (.s 3)), c0 31 (.call none (.c (kf 36)) [(.s 30)]), c0 9 (.tk (.s 31))] [2, 3, 5, 6, 7, 8, 9]) (.seq (R [cb 10 (.mv (.c (kb false)))] [2, 3, 5, 6, 7, 8, 9, 10]) (.seq (.seq (R [c0 11 (.tk (.c (ki .i64 0)))] [2, 3, 5, 6, 7, 8, 9, 10, 11]) (.block 0 (LP [2, 3, 5, 6, 7, 8, 9, 10, 11] (.seq (.seq (R [c0 32 (.mv (.s 11)), c0 33 (.mv (.s 7)), c0 34 (.len 1 (.s 33)), cb 35 (.bin .lss .any (.s 32) (.s 34))] [2, 3, 5, 6, 7, 8, 9, 10, 11, 35]) (.ite (.s 35) (.skip) (.exit 0))) (.seq (.block 1 (.seq (.seq (R [c0 12 (.tk (.c (ki .i64 0)))] [2, 3, 5, 6, 7, 8, 9, 10, 11, 12]) (.block 2 (LP [2, 3, 5, 6, 7, 8, 9, 10, 11, 12] (.seq (.seq (R [c0 38 (.mv (.s 12)), c0 39 (.mv (.s 8)), c0 40 (.len 1 (.s 39)), cb 41 (.bin .lss .any (.s 38) (.s 40))] [2, 3, 5, 6, 7, 8, 9, 10, 11, 12, 41]) (.ite (.s 41) (.skip) (.exit 2))) (.seq (.block 3 (RD [cd (some 44) true none (.mv (.s 10)) false false [10], cd (some 45) true none (.mv (.s 44)) false false [44], cd (some 46) false (some (45, false)) (.mv (.s 7)) false false [7], cd (some 47) false (some (45, false)) (.mv (.s 11)) false false [11], cd (some 48) false (some (45, false)) (.ixp 2 (.s 46) (.s 47)) false false [46, 47], cd (some 49) false (some (45, false)) (.ld true 2 (.s 48)) false false [48], cd (some 50) false (some (45, false)) (.mv (.s 8)) false false [8], cd (some 51) false (some (45, false)) (.mv (.s 12)) false false [12], cd (some 52) false (some (45, false)) (.ixp 2 (.s 50) (.s 51)) false false [50, 51], cd (some 53) false (some (45, false)) (.ld true 2 (.s 52)) false false [52], cd (some 54) true (some (45, false)) (.bin .eql (.flat [2, 0]) (.s 49) (.s 53)) false false [49, 53], cd (some 55) true none (.pick (.s 45) (.c (kb true)) (.s 54)) false false [45, 54], cd (some 10) true none (.mv (.s 55)) false false [55]] [2, 3, 5, 6, 7, 8, 9, 10, 11, 12] [])) (R [c0 42 (.mv (.s 12)), c0 43 (.bin .add .any (.s 42) (.c (ki .i64 1))), c0 12 (.tk (.s 43))] [2, 3, 5, 6, 7, 8, 9, 10, 11, 12])))))) (.seq (R [c0 13 (.tk (.c (ki .i64 0)))] [2, 3, 5, 6, 7, 8, 9, 10, 11, 13]) (.block 4 (LP [2, 3, 5, 6, 7, 8, 9, 10, 11, 13] (.seq (.seq (R [c0 56 (.mv (.s 13)), c0 57 (.mv (.s 9)), c0 58 (.len 1 (.s 57)), cb 59 (.bin .lss .any (.s 56) (.s 58))] [2, 3, 5, 6, 7, 8, 9, 10, 11, 13, 59]) (.ite (.s 59) (.skip) (.exit 4))) (.seq (.block 5 (RD [cd (some 62) true none (.mv (.s 10)) false false [10], cd (some 63) true none (.mv (.s 62)) false false [62], cd (some 64) false (some (63, false)) (.mv (.s 7)) false false [7], cd (some 65) false (some (63, false)) (.mv (.s 11)) false false [11], cd (some 66) false (some (63, false)) (.ixp 2 (.s 64) (.s 65)) false false [64, 65], cd (some 67) false (some (63, false)) (.ld true 2 (.s 66)) false false [66], cd (some 68) false (some (63, false)) (.mv (.s 9)) false false [9], cd (some 69) false (some (63, false)) (.mv (.s 13)) false false [13], cd (some 70) false (some (63, false)) (.ixp 2 (.s 68) (.s 69)) false false [68, 69], cd (some 71) false (some (63, false)) (.ld true 2 (.s 70)) false false [70], cd (some 72) true (some (63, false)) (.bin .eql (.flat [2, 0]) (.s 67) (.s 71)) false false [67, 71], cd (some 73) true none (.pick (.s 63) (.c (kb true)) (.s 72)) false false [63, 72], cd (some 10) true none (.mv (.s 73)) false false [73]] [2, 3, 5, 6, 7, 8, 9, 10, 11, 13] [])) (R [c0 60 (.mv (.s 13)), c0 61 (.bin .add .any (.s 60) (.c (ki .i64 1))), c0 13 (.tk (.s 61))] [2, 3, 5, 6, 7, 8, 9, 10, 11, 13])))))))) (R [c0 36 (.mv (.s 11)), c0 37 (.bin .add .any (.s 36) (.c (ki .i64 1))), c0 11 (.tk (.s 37))] [2, 3, 5, 6, 7, 8, 9, 10, 11])))))) (.seq (.seq (R [c0 14 (.tk (.c (ki .i64 0)))] [2, 3, 5, 6, 9, 10, 14]) (.block 6 (LP [2, 3, 5, 6, 9, 10, 14] (.seq (.seq (R [c0 74 (.mv (.s 14)), c0 75 (.mv (.s 6)), c0 76 (.len 1 (.s 75)), cb 77 (.bin .lss .any (.s 74) (.s 76))] [2, 3, 5, 6, 9, 10, 14, 77]) (.ite (.s 77) (.skip) (.exit 6))) (.seq (.block 7 (.seq (R [c0 15 (.tk (.c (ki .i64 0)))] [2, 3, 5, 6, 9, 10, 14, 15]) (.block 8 (LP [2, 3, 5, 6, 9, 10, 14, 15] (.seq (.seq (R [c0 80 (.mv (.s 15)), c0 81 (.mv (.s 9)), c0 82 (.len 1 (.s 81)), cb 83 (.bin .lss .any (.s 80) (.s 82))] [2, 3, 5, 6, 9, 10, 14, 15, 83]) (.ite (.s 83) (.skip) (.exit 8))) (.seq (.block 9 (RD [cd (some 86) true none (.mv (.s 10)) false false [10], cd (some 87) true none (.mv (.s 86)) false false [86], cd (some 88) false (some (87, false)) (.mv (.s 6)) false false [6], cd (some 89) false (some (87, false)) (.mv (.s 14)) false false [14], cd (some 90) false (some (87, false)) (.ixp 2 (.s 88) (.s 89)) false false [88, 89], cd (some 91) false (some (87, false)) (.ld true 2 (.s 90)) false false [90], cd (some 92) false (some (87, false)) (.mv (.s 9)) false false [9], cd (some 93) false (some (87, false)) (.mv (.s 15)) false false [15], cd (some 94) false (some (87, false)) (.ixp 2 (.s 92) (.s 93)) false false [92, 93], cd (some 95) false (some (87, false)) (.ld true 2 (.s 94)) false false [94], cd (some 96) true (some (87, false)) (.bin .eql (.flat [2, 0]) (.s 91) (.s 95)) false false [91, 95], cd (some 97) true none (.pick (.s 87) (.c (kb true)) (.s 96)) false false [87, 96], cd (some 10) true none (.mv (.s 97)) false false [97]] [2, 3, 5, 6, 9, 10, 14, 15] [])) (R [c0 84 (.mv (.s 15)), c0 85 (.bin .add .any (.s 84) (.c (ki .i64 1))), c0 15 (.tk (.s 85))] [2, 3, 5, 6, 9, 10, 14, 15]))))))) (R [c0 78 (.mv (.s 14)), c0 79 (.bin .add .any (.s 78) (.c (ki .i64 1))), c0 14 (.tk (.s 79))] [2, 3, 5, 6, 9, 10, 14])))))) (.seq (R [cb 98 (.mv (.s 5)), cb 99 (.mv (.s 98)), cg 100 99 true (.ld true 8 (.s 2)), cg 101 99 true (.ld true 8 (.s 3)), ch 102 99 true (.call none (.c (kf 37)) [(.s 100), (.s 101)]), ch 103 99 true (.mv (.s 10)), ch 104 99 true (.bin .eql .bool (.s 102) (.s 103)), cb 105 (.pick (.s 99) (.s 104) (.c (kb false))), cb 4 (.tk (.s 105))] [2, 3, 4]) (.ret))))))))))))
theorem fun11 : Fun Try.prog cfg 11 106 cd11 [.s 4] := ⟨rfl, Try.f11, _, Try.func11, rfl, rfl, by kernel_rfl, by kernel_rfl⟩
@[go_sem] theorem ok11 : calleeOK Try.prog 11 = true := by kernel_rfl
@[go_sem] theorem ex11 : (cfg.ext 11).isSome = false := rfl
def cd12 : Cd := .seq (R [c0 1 (.new false (.s 0)), cb 2 (.tk (.c (kb false)))] [1]) (.seq (R [cb 11 (.call none (.c (kf 31)) []), cb 3 (.tk (.s 11))] [1, 3]) (.seq (.seq (R [cb 12 (.mv (.s 3)), cb 13 (.un .not (.s 12))] [1, 3, 13]) (.ite (.s 13) (.seq (R [cb 2 (.tk (.c (kb false)))] [1, 2]) (.ret)) (.skip))) (.seq (.seq (R [c0 14 (.ld true 8 (.s 1)), c0 15 (.bsl 8 [(.s 14)]), cb 16 (.call none (.c (kf 32)) [(.s 15)])] [1, 3, 16]) (.ite (.s 16) (.seq (R [cb 17 (.tk (.s 3)), cb 2 (.tk (.s 17))] [1, 2]) (.ret)) (.skip))) (.seq (R [c0 18 (.ld true 8 (.s 1)), c0 19 (.call none (.c (kf 35)) [(.s 18)]), c0 4 (.tk (.s 19))] [1, 3, 4]) (.seq (R [c0 20 (.ld true 8 (.s 1)), c0 21 (.call none (.c (kf 36)) [(.s 20)]), c0 5 (.tk (.s 21))] [1, 3, 4, 5]) (.seq (R [c0 6 (.tk (.c (kn 2)))] [1, 3, 4, 5, 6]) (.seq (R [c0 22 (.tk (.s 6)), c0 23 (.mv (.s 4)), c0 24 (.app 2 27 false (.s 22) (.s 23)), c0 6 (.tk (.s 24))] [1, 3, 4, 5, 6]) (.seq (R [c0 25 (.tk (.s 6)), c0 26 (.mv (.s 5)), c0 27 (.app 2 27 false (.s 25) (.s 26)), c0 6 (.tk (.s 27))] [1, 3, 4, 5, 6]) (.seq (.seq (R [c0 7 (.tk (.c (ki .i64 0)))] [1, 3, 4, 5, 6, 7]) (.block 0 (LP [1, 3, 4, 5, 6, 7] (.seq (.seq (R [c0 28 (.mv (.s 7)), c0 29 (.mv (.s 6)), c0 30 (.len 1 (.s 29)), cb 31 (.bin .lss .any (.s 28) (.s 30))] [1, 3, 4, 5, 6, 7, 31]) (.ite (.s 31) (.skip) (.exit 0))) (.seq (.block 1 (.seq (.seq (RD (cd (some 34) false none (.mv (.s 6)) false false [6] :: cd (some 35) false none (.mv (.s 7)) false false [7] :: cd (some 36) false none (.ixp 2 (.s 34) (.s 35)) false false [34, 35] :: cd (some 37) false none (.mov 0 (.s 36)) false false [36] :: cd (some 38) false none (.ld false 1 (.s 37)) false false [37] :: cd (some 39) false none (.mov 3 (.s 1)) false false [1] :: cd (some 40) false none (.ld false 1 (.s 39)) false false [39] :: cd (some 41) true none (.bin .neq .any (.s 38) (.s 40)) false false [38, 40] :: cd (some 42) true none (.mv (.s 41)) false false [41] :: cd (some 43) false (some (42, true)) (.mv (.s 6)) false false [6] :: cd (some 44) false (some (42, true)) (.mv (.s 7)) false false [7] :: cd (some 45) false (some (42, true)) (.ixp 2 (.s 43) (.s 44)) false false [43, 44] :: cd (some 46) false (some (42, true)) (.mov 0 (.s 45)) false false [45] :: cd (some 47) false (some (42, true)) (.ld false 1 (.s 46)) false false [46] :: cd (some 48) false (some (42, true)) (.mov 3 (.s 1)) false false [1] :: cd (some 49) false (some (42, true)) (.ld false 1 (.s 48)) false false [48] :: cd (some 50) false (some (42, true)) (.call none (.c (kf 21)) [(.s 49)]) false false [49] :: cd (some 51) true (some (42, true)) (.bin .neq .any (.s 47) (.s 50)) false false [47, 50] :: cd (some 52) true none (.pick (.s 42) (.s 51) (.c (kb false))) false false [42, 51] :: cd (some 53) true none (.mv (.s 52)) false false [52] :: cd (some 54) false (some (53, false)) (.mv (.s 6)) false false [6] :: cd (some 55) false (some (53, false)) (.mv (.s 7)) false false [7] :: cd (some 56) false (some (53, false)) (.ixp 2 (.s 54) (.s 55)) false false [54, 55] :: cd (some 57) false (some (53, false)) (.mov 1 (.s 56)) false false [56] :: cd (some 58) false (some (53, false)) (.ld false 1 (.s 57)) false false [57] :: cd (some 59) true (some (53, false)) (.bin .neq .any (.s 58) (.c (ki .u8 101))) false false [58] :: cd (some 60) true (some (53, false)) (.mv (.s 59)) false false [59] :: cd (some 61) false (some (60, true)) (.mv (.s 6)) false false [6] :: cd (some 62) false (some (60, true)) (.mv (.s 7)) false false [7] :: cd (some 63) false (some (60, true)) (.ixp 2 (.s 61) (.s 62)) false false [61, 62] :: cd (some 64) false (some (60, true)) (.mov 1 (.s 63)) false false [63] :: cd (some 65) false (some (60, true)) (.ld false 1 (.s 64)) false false [64] :: cd (some 66) true (some (60, true)) (.bin .neq .any (.s 65) (.c (ki .u8 118))) false false [65] :: cd (some 67) true (some (53, false)) (.pick (.s 60) (.s 66) (.c (kb false))) false false [60, 66] :: cd (some 68) true (some (53, false)) (.mv (.s 67)) false false [67] :: cd (some 69) false (some (68, true)) (.mv (.s 6)) false false [6] :: cd (some 70) false (some (68, true)) (.mv (.s 7)) false false [7] :: cd (some 71) false (some (68, true)) (.ixp 2 (.s 69) (.s 70)) false false [69, 70] :: cd (some 72) false (some (68, true)) (.mov 1 (.s 71)) false false [71] :: cd (some 73) false (some (68, true)) (.ld false 1 (.s 72)) false false [72] :: cd (some 74) true (some (68, true)) (.bin .neq .any (.s 73) (.c (ki .u8 107))) false false [73] :: cd (some 75) true (some (53, false)) (.pick (.s 68) (.s 74) (.c (kb false))) false false [68, 74] :: cd (some 76) true none (.pick (.s 53) (.c (kb true)) (.s 75)) false false [53, 75] :: []) [1, 3, 4, 5, 6, 7, 76] [46, 42]) (.ite (.s 76) (.seq (R [cb 2 (.tk (.c (kb false)))] [1, 2]) (.ret)) (.skip))) (.seq (R [c0 8 (.tk (.c (ki .i64 0)))] [1, 3, 4, 5, 6, 7, 8]) (.block 2 (LP [1, 3, 4, 5, 6, 7, 8] (.seq (.seq (R [c0 77 (.mv (.s 8)), c0 78 (.mv (.s 7)), cb 79 (.bin .lss .any (.s 77) (.s 78))] [1, 3, 4, 5, 6, 7, 8, 79]) (.ite (.s 79) (.skip) (.exit 2))) (.seq (.block 3 (.seq (R [c0 82 (.mv (.s 7)), c0 83 (.mv (.s 4)), c0 84 (.len 1 (.s 83)), cb 85 (.bin .lss .any (.s 82) (.s 84)), cb 86 (.mv (.s 85)), cg 87 86 false (.mv (.s 8)), cg 88 86 false (.mv (.s 4)), cg 89 86 false (.len 1 (.s 88)), ch 90 86 false (.bin .geq .any (.s 87) (.s 89)), cb 91 (.pick (.s 86) (.c (kb true)) (.s 90)), cb 9 (.tk (.s 91))] [1, 3, 4, 5, 6, 7, 8, 9]) (.seq (RD [cd (some 92) true none (.mv (.s 9)) false false [9], cd (some 93) true none (.mv (.s 92)) false false [92], cd (some 94) false (some (93, true)) (.mv (.s 6)) false false [6], cd (some 95) false (some (93, true)) (.mv (.s 7)) false false [7], cd (some 96) false (some (93, true)) (.ixp 2 (.s 94) (.s 95)) false false [94, 95], cd (some 97) false (some (93, true)) (.ld true 2 (.s 96)) false false [96], cd (some 98) false (some (93, true)) (.mv (.s 6)) false false [6], cd (some 99) false (some (93, true)) (.mv (.s 8)) false false [8], cd (some 100) false (some (93, true)) (.ixp 2 (.s 98) (.s 99)) false false [98, 99], cd (some 101) false (some (93, true)) (.ld true 2 (.s 100)) false false [100], cd (some 102) true (some (93, true)) (.bin .eql (.flat [2, 0]) (.s 97) (.s 101)) false false [97, 101], cd (some 103) true none (.pick (.s 93) (.s 102) (.c (kb false))) false false [93, 102]] [1, 3, 4, 5, 6, 7, 8, 103] []) (.ite (.s 103) (.seq (R [cb 2 (.tk (.c (kb false)))] [1, 2]) (.ret)) (.skip))))) (R [c0 80 (.mv (.s 8)), c0 81 (.bin .add .any (.s 80) (.c (ki .i64 1))), c0 8 (.tk (.s 81))] [1, 3, 4, 5, 6, 7, 8])))))))) (R [c0 32 (.mv (.s 7)), c0 33 (.bin .add .any (.s 32) (.c (ki .i64 1))), c0 7 (.tk (.s 33))] [1, 3, 4, 5, 6, 7])))))) (.seq (R [c0 104 (.mov 2 (.s 1)), c0 105 (.ld false 1 (.s 104)), cb 106 (.bin .eql .any (.s 105) (.c (ki .i64 4))), cb 107 (.mv (.s 106)), cg 108 107 false (.mov 2 (.s 1)), cg 109 107 false (.ld false 1 (.s 108)), ch 110 107 false (.bin .eql .any (.s 109) (.c (ki .i64 5))), cb 111 (.pick (.s 107) (.c (kb true)) (.s 110)), cb 10 (.tk (.s 111))] [1, 3, 5, 6, 10]) (.seq (R (cb 112 (.mv (.s 3)) :: cb 113 (.mv (.s 112)) :: ch 114 113 true (.mv (.s 10)) :: ch 115 113 true (.un .not (.s 114)) :: ch 116 113 true (.mv (.s 115)) :: cg 117 116 false (.mv (.s 5)) :: cg 118 116 false (.len 1 (.s 117)) :: ch 119 116 false (.bin .eql .any (.s 118) (.c (ki .i64 0))) :: ch 120 113 true (.pick (.s 116) (.c (kb true)) (.s 119)) :: cb 121 (.pick (.s 113) (.s 120) (.c (kb false))) :: cb 122 (.mv (.s 121)) :: cg 123 122 true (.mov 3 (.s 1)) :: cg 124 122 true (.ld false 1 (.s 123)) :: ch 125 122 true (.call none (.c (kf 14)) [(.s 124)]) :: ch 126 122 true (.mv (.s 125)) :: cg 127 126 false (.mv (.s 6)) :: cg 128 126 false (.len 1 (.s 127)) :: ch 129 126 false (.bin .eql .any (.s 128) (.c (ki .i64 0))) :: ch 130 122 true (.pick (.s 126) (.c (kb true)) (.s 129)) :: cb 131 (.pick (.s 122) (.s 130) (.c (kb false))) :: cb 2 (.tk (.s 131)) :: []) [1, 2]) (.ret))))))))))))
theorem fun12 : Fun Try.prog cfg 12 132 cd12 [.s 2] := ⟨rfl, Try.f12, _, Try.func12, rfl, rfl, by kernel_rfl, by kernel_rfl⟩
@[go_sem] theorem ok12 : calleeOK Try.prog 12 = true := by kernel_rfl
@[go_sem] theorem ex12 : (cfg.ext 12).isSome = false := rfl
variable {h : DHeap}
theorem wp_aside {P : Program} {C : Cfg} {n : Nat} {c : Cd} {a : AF} {h : DHeap} {Q : XD → AF → DHeap → Prop} (H : ∀ Q' : XD → AF → DHeap → Prop, (∀ e a h, Q e a h → Q' e a h) → WP P C n c a h Q') : WP P C n c a h Q := H Q fun _ _ _ q => q
theorem mem_take_succ {l : List Cel} {k : Nat} (hk : k < l.length) (c : Cel) : decide (c ∈ l.take (k + 1)) = (decide (c ∈ l.take k) || decide (c = l[k])) := by
  rw [List.take_succ_eq_append_getElem hk, Bool.eq_iff_iff]
  simp only [decide_eq_true_eq, Bool.or_eq_true, List.mem_append, List.mem_cons, List.not_mem_nil, or_false]
theorem any_take_succ {l : List Cel} {p : Cel → Bool} {k : Nat} (hk : k < l.length) : (l.take (k + 1)).any p = ((l.take k).any p || p l[k]) := by
  rw [List.take_succ_eq_append_getElem hk, List.any_append, List.any_cons, List.any_nil, Bool.or_false]
set_option maxHeartbeats 4000000 in
theorem touchFar_lim (a b : Cmd) (ha : a.path.length ≤ 1048575) (hb : b.path.length ≤ 1048575) : lim Try.prog cfg 11 [cmdD a, cmdD b] h = some (vb true, h) := by
  refine lim_funp fun11 rfl (by simp) rfl rfl ?_
  delta cd11
  have w8 := works8_lim (h := [])
  have o := over_lim (h := []) false [a, b] (by simp)
  simp only [cms, List.map_cons, List.map_nil] at o
  have r1 := reads_lim (h := []) a (by omega)
  have r2 := writes_lim (h := []) a (by omega)
  have r3 := reads_lim (h := []) b (by omega)
  have r4 := writes_lim (h := []) b (by omega)
  have p1 := paths_lim (h := []) a b (by omega) (by omega)
  have la := uses_le a
  have lb := uses_le b
  have hp : pathsB a b = ((usesP a).2.any (fun c => decide (c ∈ (usesP b).1) || decide (c ∈ (usesP b).2)) || (usesP a).1.any fun c => decide (c ∈ (usesP b).2)) := by
    rw [paths_meet, Bool.eq_iff_iff]
    simp only [meetB, Bool.or_eq_true, List.any_eq_true, decide_eq_true_eq]
    grind
  generalize overP [a, b] = z at o
  generalize pathsB a b = p at p1 hp
  generalize (usesP a).1 = r at r1 la hp
  generalize (usesP a).2 = w at r2 la hp
  generalize (usesP b).1 = s at r3 lb hp
  generalize (usesP b).2 = x at r4 lb hp
  let C : AF := [(2, .box [vi a.client, vi a.seq, vi a.op, vs a.path, vs a.value, vi a.version, vi a.a, vi a.b]), (3, .box [vi b.client, vi b.seq, vi b.op, vs b.path, vs b.value, vi b.version, vi b.a, vi b.b]), (5, vb true), (6, .list false 2 (cls r))]
  let F : Nat → Bool → AF := fun i m => C ++ [(7, .list false 2 (cls w)), (8, .list false 2 (cls s)), (9, .list false 2 (cls x)), (10, vb m), (11, vi (i : Nat))]
  let G : Nat → Bool → AF := fun i m => C ++ [(9, .list false 2 (cls x)), (10, vb m), (14, vi (i : Nat))]
  cases z with
  | true => simp -implicitDefEqProofs -dsimp only [go_sem, w8, o]
  | false =>
  simp -implicitDefEqProofs -dsimp only [go_sem, w8, o, r1, r2, r3, r4]
  refine wp_for (σ := Nat × Bool) (fun y => F y.1 y.2) (fun _ => []) (fun y => w.length - y.1) (fun y => y.1 ≤ w.length ∧ y.2 = (w.take y.1).any fun c => decide (c ∈ s) || decide (c ∈ x)) (0, false) (by simp) rfl rfl ?_
  rintro ⟨i, m⟩ ⟨hi, hm⟩ N hN
  dsimp only [F, C, List.cons_append, List.nil_append] at hi hm ⊢
  by_cases hlt : i < w.length
  · have h1 : ((i : Int) < (w.length : Int)) := by omega
    simp -implicitDefEqProofs -dsimp only [go_sem, h1]

    refine wp_for (σ := Nat × Bool) (fun y => F i y.2 ++ [(12, vi (y.1 : Nat))]) (fun _ => []) (fun y => s.length - y.1) (fun y => y.1 ≤ s.length ∧ y.2 = (m || decide (w[i] ∈ s.take y.1))) (0, m) (by simp) rfl rfl ?_
    rintro ⟨k, m2⟩ ⟨hk, hm2⟩ N2 hN2
    dsimp only [F, C, List.cons_append, List.nil_append] at hk hm2 ⊢
    by_cases hlt2 : k < s.length
    · have h2 : ((k : Int) < (s.length : Int)) := by omega
      have ht := mem_take_succ hlt2 w[i]
      have hw := wrap_succ (show k < 9223372036854775807 by omega)
      cases m2
      · simp -implicitDefEqProofs -dsimp only [go_sem, h2, hlt, hlt2, eqs_cel]
        refine ⟨fun hc => hN2 (k + 1, true) _ (by dsimp only; omega) ⟨hlt2, ?_⟩ ?_, fun hc => hN2 (k + 1, false) _ (by dsimp only; omega) ⟨hlt2, ?_⟩ ?_⟩
        · dsimp only; rw [ht, decide_eq_true hc]; simp
        · dsimp only [F, C, List.cons_append, List.nil_append]; simp -implicitDefEqProofs -dsimp only [go_sem, hw]
        · dsimp only; rw [ht, decide_eq_false hc, Bool.or_false]; exact hm2
        · dsimp only [F, C, List.cons_append, List.nil_append]; simp -implicitDefEqProofs -dsimp only [go_sem, hw]
      · simp -implicitDefEqProofs -dsimp only [go_sem, h2, hlt, hlt2, eqs_cel]
        refine hN2 (k + 1, true) _ (by dsimp only; omega) ⟨hlt2, ?_⟩ ?_
        · dsimp only; rw [ht, ← Bool.or_assoc, ← hm2]; rfl
        · dsimp only [F, C, List.cons_append, List.nil_append]; simp -implicitDefEqProofs -dsimp only [go_sem, hw]
    have h2 : ¬ ((k : Int) < (s.length : Int)) := by omega
    have : k = s.length := by omega
    subst this
    rw [List.take_length] at hm2
    simp -implicitDefEqProofs -dsimp only [go_sem, h2]
    clear hN2 N2 h2 hlt2 hk
    obtain ⟨m3, hm3⟩ : ∃ m3, m3 = m2 := ⟨_, rfl⟩

    refine wp_for (σ := Nat × Bool) (fun y => F i y.2 ++ [(13, vi (y.1 : Nat))]) (fun _ => []) (fun y => x.length - y.1) (fun y => y.1 ≤ x.length ∧ y.2 = (m3 || decide (w[i] ∈ x.take y.1))) (0, m3) (by simp) (by rw [hm3]; rfl) rfl ?_
    rintro ⟨k, m4⟩ ⟨hk, hm4⟩ N2 hN2
    dsimp only [F, C, List.cons_append, List.nil_append] at hk hm4 ⊢
    by_cases hlt2 : k < x.length
    · have h2 : ((k : Int) < (x.length : Int)) := by omega
      have ht := mem_take_succ hlt2 w[i]
      have hw := wrap_succ (show k < 9223372036854775807 by omega)
      cases m4
      · simp -implicitDefEqProofs -dsimp only [go_sem, h2, hlt, hlt2, eqs_cel]
        refine ⟨fun hc => hN2 (k + 1, true) _ (by dsimp only; omega) ⟨hlt2, ?_⟩ ?_, fun hc => hN2 (k + 1, false) _ (by dsimp only; omega) ⟨hlt2, ?_⟩ ?_⟩
        · dsimp only; rw [ht, decide_eq_true hc]; simp
        · dsimp only [F, C, List.cons_append, List.nil_append]; simp -implicitDefEqProofs -dsimp only [go_sem, hw]
        · dsimp only; rw [ht, decide_eq_false hc, Bool.or_false]; exact hm4
        · dsimp only [F, C, List.cons_append, List.nil_append]; simp -implicitDefEqProofs -dsimp only [go_sem, hw]
      · simp -implicitDefEqProofs -dsimp only [go_sem, h2, hlt, hlt2, eqs_cel]
        refine hN2 (k + 1, true) _ (by dsimp only; omega) ⟨hlt2, ?_⟩ ?_
        · dsimp only; rw [ht, ← Bool.or_assoc, ← hm4]; rfl
        · dsimp only [F, C, List.cons_append, List.nil_append]; simp -implicitDefEqProofs -dsimp only [go_sem, hw]
    have h2 : ¬ ((k : Int) < (x.length : Int)) := by omega
    have : k = x.length := by omega
    subst this
    rw [List.take_length] at hm4
    simp -implicitDefEqProofs -dsimp only [go_sem, h2]
    clear hN2 N2 h2 hlt2 hk
    refine hN (i + 1, m4) _ (by dsimp only; omega) ⟨hlt, ?_⟩ ?_
    · dsimp only; rw [any_take_succ hlt, hm4, hm3, hm2, ← hm, Bool.or_assoc]
    · dsimp only [F, C, List.cons_append, List.nil_append]; simp -implicitDefEqProofs -dsimp only [go_sem, wrap_succ (show i < 9223372036854775807 by omega)]
  have h1 : ¬ ((i : Int) < (w.length : Int)) := by omega
  have : i = w.length := by omega
  subst this
  rw [List.take_length] at hm
  simp -implicitDefEqProofs -dsimp only [go_sem, h1]
  clear hN N h1 hlt hi
  rw [← hm] at hp
  obtain ⟨m0, hm0⟩ : ∃ m0, m0 = m := ⟨_, rfl⟩
  refine wp_for (σ := Nat × Bool) (fun y => G y.1 y.2) (fun _ => []) (fun y => r.length - y.1) (fun y => y.1 ≤ r.length ∧ y.2 = (m0 || (r.take y.1).any fun c => decide (c ∈ x))) (0, m0) (by simp) (by rw [hm0]; rfl) rfl ?_
  rintro ⟨i, m⟩ ⟨hi, hm⟩ N hN
  dsimp only [G, C, List.cons_append, List.nil_append] at hi hm ⊢
  by_cases hlt : i < r.length
  · have h1 : ((i : Int) < (r.length : Int)) := by omega
    simp -implicitDefEqProofs -dsimp only [go_sem, h1]

    refine wp_for (σ := Nat × Bool) (fun y => G i y.2 ++ [(15, vi (y.1 : Nat))]) (fun _ => []) (fun y => x.length - y.1) (fun y => y.1 ≤ x.length ∧ y.2 = (m || decide (r[i] ∈ x.take y.1))) (0, m) (by simp) rfl rfl ?_
    rintro ⟨k, m2⟩ ⟨hk, hm2⟩ N2 hN2
    dsimp only [G, C, List.cons_append, List.nil_append] at hk hm2 ⊢
    by_cases hlt2 : k < x.length
    · have h2 : ((k : Int) < (x.length : Int)) := by omega
      have ht := mem_take_succ hlt2 r[i]
      have hw := wrap_succ (show k < 9223372036854775807 by omega)
      cases m2
      · simp -implicitDefEqProofs -dsimp only [go_sem, h2, hlt, hlt2, eqs_cel]
        refine ⟨fun hc => hN2 (k + 1, true) _ (by dsimp only; omega) ⟨hlt2, ?_⟩ ?_, fun hc => hN2 (k + 1, false) _ (by dsimp only; omega) ⟨hlt2, ?_⟩ ?_⟩
        · dsimp only; rw [ht, decide_eq_true hc]; simp
        · dsimp only [G, C, List.cons_append, List.nil_append]; simp -implicitDefEqProofs -dsimp only [go_sem, hw]
        · dsimp only; rw [ht, decide_eq_false hc, Bool.or_false]; exact hm2
        · dsimp only [G, C, List.cons_append, List.nil_append]; simp -implicitDefEqProofs -dsimp only [go_sem, hw]
      · simp -implicitDefEqProofs -dsimp only [go_sem, h2, hlt, hlt2, eqs_cel]
        refine hN2 (k + 1, true) _ (by dsimp only; omega) ⟨hlt2, ?_⟩ ?_
        · dsimp only; rw [ht, ← Bool.or_assoc, ← hm2]; rfl
        · dsimp only [G, C, List.cons_append, List.nil_append]; simp -implicitDefEqProofs -dsimp only [go_sem, hw]
    have h2 : ¬ ((k : Int) < (x.length : Int)) := by omega
    have : k = x.length := by omega
    subst this
    rw [List.take_length] at hm2
    simp -implicitDefEqProofs -dsimp only [go_sem, h2]
    clear hN2 N2 h2 hlt2 hk
    refine hN (i + 1, m2) _ (by dsimp only; omega) ⟨hlt, ?_⟩ ?_
    · dsimp only; rw [any_take_succ hlt, hm2, hm, Bool.or_assoc]
    · dsimp only [G, C, List.cons_append, List.nil_append]; simp -implicitDefEqProofs -dsimp only [go_sem, wrap_succ (show i < 9223372036854775807 by omega)]
  have h1 : ¬ ((i : Int) < (r.length : Int)) := by omega
  have : i = r.length := by omega
  subst this
  rw [List.take_length, hm0, ← hp] at hm
  subst hm
  cases m <;> simp -implicitDefEqProofs -dsimp only [go_sem, h1, p1]
theorem parent_ne {p : Str} {l : List Str} (h : parse p = some l) : parentP p ≠ p := by
  obtain ⟨h1, h2⟩ := parse_some h
  have hn : namesP p = l := by simp [namesP, h]
  unfold parentP
  rw [hn]
  split
  · rename_i h3
    subst h3
    rw [h2]
    simp [pathOf]
  · rename_i h3
    intro e
    have h4 := parse_pathOf (okL_sub (m := l.dropLast) h1 (by simp) fun s hs => (List.dropLast_sublist l).subset hs)
    rw [e, h] at h4
    have := congrArg List.length (Option.some.inj h4)
    have := List.length_pos_iff.2 h3
    rw [List.length_dropLast] at *
    omega
/-- What a command uses is of its path, and of what is just above it; each once. -/
theorem uses_good (c : Cmd) : (∀ d ∈ (usesP c).1 ++ (usesP c).2, (d.1 = c.path ∨ d.1 = parentP c.path) ∧ (d.2 = 101 ∨ d.2 = 118 ∨ d.2 = 107)) ∧ (usesP c).1.Nodup ∧ (usesP c).2.Nodup ∧ ((c.op = 4 ∨ c.op = 5) → (usesP c).2 = []) ∧ (parse c.path = none → (usesP c).1 = [] ∧ (usesP c).2 = []) := by
  unfold usesP
  cases h : parse c.path with
  | none => simp
  | some l =>
    have hne := parent_ne h
    have hne' := Ne.symm hne
    split
    · simp_all
    · repeat' split
      all_goals simp [ofP, hne, hne'] <;> (try omega) <;> grind
set_option maxHeartbeats 4000000 in
theorem touchCells_lim (c : Cmd) (hc : c.path.length ≤ 1048575) : lim Try.prog cfg 12 [cmdD c] h = some (vb true, h) := by
  refine lim_funp fun12 rfl (by simp) rfl rfl ?_
  delta cd12
  have w8 := works8_lim (h := [])
  have o := over_lim (h := []) false [c] (by simp)
  simp only [cms, List.map_cons, List.map_nil] at o
  have r1 := reads_lim (h := []) c (by omega)
  have r2 := writes_lim (h := []) c (by omega)
  have va := valid_lim (h := []) c.path (by omega)
  have pa := parent_lim (h := []) c.path (by omega)
  have la := uses_le c
  obtain ⟨g1, g2, g3, g4, g5⟩ := uses_good c
  generalize overP [c] = z at o
  generalize (usesP c).1 = r at r1 la g1 g2 g5
  generalize (usesP c).2 = w at r2 la g1 g3 g4 g5
  cases z with
  | true => simp -implicitDefEqProofs -dsimp only [go_sem, w8, o]
  | false =>
  have m1 : r.length * 27 ≤ maxLenD := by unfold maxLenD; omega
  have m2 : (r.length + w.length) * 27 ≤ maxLenD := by unfold maxLenD; omega
  have hul : (r ++ w).length ≤ 6 := by simp; omega
  have hnd : ∀ i k (hi : i < (r ++ w).length) (hk : k < i), (i < r.length ∨ r.length ≤ k) → (r ++ w)[i] ≠ (r ++ w)[k] := by
    intro i k hi hk ho e
    rcases ho with ho | ho
    · rw [List.getElem_append_left (by omega), List.getElem_append_left (by omega)] at e
      have := (List.getElem_inj g2).1 e
      omega
    · rw [List.getElem_append_right (by omega), List.getElem_append_right (by omega)] at e
      have := (List.getElem_inj g3).1 e
      omega
  have hlen : (r ++ w).length = r.length + w.length := by simp
  obtain ⟨u, hu⟩ : ∃ u, r ++ w = u := ⟨_, rfl⟩
  simp -implicitDefEqProofs -dsimp only [go_sem, w8, o, r1, r2, m1, m2, hu]
  simp only [hu] at g1 hul hnd hlen
  let F : Nat → AF := fun i => [(1, .box [vi c.client, vi c.seq, vi c.op, vs c.path, vs c.value, vi c.version, vi c.a, vi c.b]), (3, vb true), (4, .list false 2 (cls r)), (5, .list false 2 (cls w)), (6, .list true 2 (cls u)), (7, vi (i : Nat))]
  refine wp_for (σ := Nat) F (fun _ => []) (fun i => u.length - i) (fun i => i ≤ u.length) 0 (by simp) rfl rfl ?_
  rintro i hi N hN
  dsimp only [F]
  by_cases hlt : i < u.length
  · have h1 : ((i : Int) < (u.length : Int)) := by omega
    obtain ⟨q1, q2⟩ := g1 u[i] (List.getElem_mem _)
    have q2' : (u[i].2.toNat : Int) = 101 ∨ (u[i].2.toNat : Int) = 118 ∨ (u[i].2.toNat : Int) = 107 := by
      rcases q2 with e | e | e <;> rw [e] <;> simp
    clear q2
    have d1 : u[i].1 = c.path ∨ (¬ u[i].1 = c.path ∧ u[i].1 = parentP c.path) := by
      rcases q1 with e | e
      · exact .inl e
      · by_cases e' : u[i].1 = c.path
        · exact .inl e'
        · exact .inr ⟨e', e⟩
    clear q1
    have hw := wrap_succ (show i < 9223372036854775807 by omega)
    rcases d1 with d1 | ⟨d0, d1⟩
    · rcases q2' with e | e | e
      all_goals
        refine wp_aside fun Q hQ => ?_
        simp -implicitDefEqProofs -dsimp only [go_sem, h1, hlt, d1, e, pa]
        refine wp_for (σ := Nat) (fun k => F i ++ [(8, vi (k : Nat))]) (fun _ => []) (fun k => i - k) (fun k => k ≤ i) 0 (by simp) rfl rfl ?_
        rintro k hk N2 hN2
        dsimp only [F, List.cons_append, List.nil_append] at hN2 ⊢
        by_cases hk2 : k < i
        · have k1 : ((k : Int) < (i : Int)) := by omega
          have hkw := wrap_succ (show k < 9223372036854775807 by omega)
          have hku : k < u.length := by omega
          by_cases hi2 : i < r.length
          · have hne := hnd i k hlt hk2 (.inl hi2)
            have k2 : ((i : Int) < (r.length : Int)) := by omega
            simp -implicitDefEqProofs -dsimp only [go_sem, k1, k2, hlt, hku, eqs_cel]
            exact ⟨fun e' => (hne e').elim, fun _ => hN2 (k + 1) _ (by omega) (by omega) (by simp -implicitDefEqProofs -dsimp only [go_sem, hkw])⟩
          · have k2 : ¬ ((i : Int) < (r.length : Int)) := by omega
            by_cases hr2 : r.length ≤ k
            · have hne := hnd i k hlt hk2 (.inr hr2)
              have k3 : ((r.length : Int) ≤ (k : Int)) := by omega
              simp -implicitDefEqProofs -dsimp only [go_sem, k1, k2, k3, hlt, hku, eqs_cel]
              exact ⟨fun e' => (hne e').elim, fun _ => hN2 (k + 1) _ (by omega) (by omega) (by simp -implicitDefEqProofs -dsimp only [go_sem, hkw])⟩
            · have k3 : ¬ ((r.length : Int) ≤ (k : Int)) := by omega
              simp -implicitDefEqProofs -dsimp only [go_sem, k1, k2, k3, hlt, hku, eqs_cel]
              exact hN2 (k + 1) _ (by omega) (by omega) (by simp -implicitDefEqProofs -dsimp only [go_sem, hkw])
        · have k1 : ¬ ((k : Int) < (i : Int)) := by omega
          simp -implicitDefEqProofs -dsimp only [go_sem, k1]
          refine hQ _ _ _ ?_
          simp -implicitDefEqProofs -dsimp only [go_sem]
          refine hN (i + 1) _ (by omega) (by omega) ?_
          dsimp only [F]
          simp -implicitDefEqProofs -dsimp only [go_sem, hw]
    · have d0' : ¬ parentP c.path = c.path := fun e => d0 (d1.trans e)
      rcases q2' with e | e | e
      all_goals
        refine wp_aside fun Q hQ => ?_
        simp -implicitDefEqProofs -dsimp only [go_sem, h1, hlt, d1, d0', e, pa]
        refine wp_for (σ := Nat) (fun k => F i ++ [(8, vi (k : Nat))]) (fun _ => []) (fun k => i - k) (fun k => k ≤ i) 0 (by simp) rfl rfl ?_
        rintro k hk N2 hN2
        dsimp only [F, List.cons_append, List.nil_append] at hN2 ⊢
        by_cases hk2 : k < i
        · have k1 : ((k : Int) < (i : Int)) := by omega
          have hkw := wrap_succ (show k < 9223372036854775807 by omega)
          have hku : k < u.length := by omega
          by_cases hi2 : i < r.length
          · have hne := hnd i k hlt hk2 (.inl hi2)
            have k2 : ((i : Int) < (r.length : Int)) := by omega
            simp -implicitDefEqProofs -dsimp only [go_sem, k1, k2, hlt, hku, eqs_cel]
            exact ⟨fun e' => (hne e').elim, fun _ => hN2 (k + 1) _ (by omega) (by omega) (by simp -implicitDefEqProofs -dsimp only [go_sem, hkw])⟩
          · have k2 : ¬ ((i : Int) < (r.length : Int)) := by omega
            by_cases hr2 : r.length ≤ k
            · have hne := hnd i k hlt hk2 (.inr hr2)
              have k3 : ((r.length : Int) ≤ (k : Int)) := by omega
              simp -implicitDefEqProofs -dsimp only [go_sem, k1, k2, k3, hlt, hku, eqs_cel]
              exact ⟨fun e' => (hne e').elim, fun _ => hN2 (k + 1) _ (by omega) (by omega) (by simp -implicitDefEqProofs -dsimp only [go_sem, hkw])⟩
            · have k3 : ¬ ((r.length : Int) ≤ (k : Int)) := by omega
              simp -implicitDefEqProofs -dsimp only [go_sem, k1, k2, k3, hlt, hku, eqs_cel]
              exact hN2 (k + 1) _ (by omega) (by omega) (by simp -implicitDefEqProofs -dsimp only [go_sem, hkw])
        · have k1 : ¬ ((k : Int) < (i : Int)) := by omega
          simp -implicitDefEqProofs -dsimp only [go_sem, k1]
          refine hQ _ _ _ ?_
          simp -implicitDefEqProofs -dsimp only [go_sem]
          refine hN (i + 1) _ (by omega) (by omega) ?_
          dsimp only [F]
          simp -implicitDefEqProofs -dsimp only [go_sem, hw]
  · have h1 : ¬ ((i : Int) < (u.length : Int)) := by omega
    have : i = u.length := by omega
    subst this
    have hu0 : r.length = 0 ∧ w.length = 0 → u.length = 0 := by omega
    obtain ⟨xc, xq, xo, xp, xv, xr, xa, xb⟩ := c
    dsimp only at va g4 g5 ⊢
    by_cases hv : parse xp = none
    · rw [hv] at va
      obtain ⟨e1, e2⟩ := g5 hv
      have e1' : r.length = 0 := by rw [e1]; rfl
      have e2' : w.length = 0 := by rw [e2]; rfl
      have hz : ((u.length : Int) = 0) := by omega
      have hz2 : ((w.length : Int) = 0) := by subst e2; rfl
      by_cases o4 : xo = 4
      · subst o4
        simp -implicitDefEqProofs -dsimp only [go_sem, h1, va, hz, hz2]
      by_cases o5 : xo = 5
      · subst o5
        simp -implicitDefEqProofs -dsimp only [go_sem, h1, va, hz, hz2]
      · simp -implicitDefEqProofs -dsimp only [go_sem, h1, va, hz, hz2, o4, o5]
    · obtain ⟨l, hl⟩ := Option.ne_none_iff_exists'.1 hv
      rw [hl] at va
      by_cases o4 : xo = 4
      · subst o4
        have hz2 : ((w.length : Int) = 0) := by rw [g4 (.inl rfl)]; rfl
        simp -implicitDefEqProofs -dsimp only [go_sem, h1, va, hz2]
      by_cases o5 : xo = 5
      · subst o5
        have hz2 : ((w.length : Int) = 0) := by rw [g4 (.inr rfl)]; rfl
        simp -implicitDefEqProofs -dsimp only [go_sem, h1, va, hz2]
      · simp -implicitDefEqProofs -dsimp only [go_sem, h1, va, o4, o5]
end Go.DS

/-
  The row TouchCells.
-/
namespace Go.Proofs.Ytejkkmiaffbjbaa.touchCells
open Go.ChangeShapes Go.WideShapes Go.ChangeAt Go.RowKit
open Go.ChangeMaps (open_string shut_string)
open Go.DS
set_option linter.unusedVariables false
set_option linter.unusedSimpArgs false

theorem contract (H : Type) (enc : TypeId × Value → H) (W : World) (base : Nat) (args : Array Value) (ds gs : List (DataW H)) (before : List MemPlace)
    (hval0 : ∀ (j : Nat) t v, Try.f12.params[j]? = some t → args[j]? = some v → Value.okWide Try.prog W .any base t v)
    (hW : DataW.Whole enc Try.prog Try.f12.params.toList Rows.touchCellsSpec.vars false W args.toList ds gs before) (hk : Rows.uptoSmall H (ds ++ gs) = true) :
    Calls Try.prog 12 args W fun e W' => ∃ v, e = .returned v ∧ Rows.touchCellsSpec.post enc Try.prog Try.f12 false true false false W args v W' := by
  have hval : ∀ (j : Nat) t v, Try.f12.params[j]? = some t → args[j]? = some v → Value.okWide Try.prog W .any base t v := hval0
  have hW' := hW
  obtain ⟨p, q, hA0, hV, rfl, hfz, hnd⟩ := hW
  have hA : DataW.TrodAll enc Try.prog W 0 (fun _ => true) true Try.f12.params.toList args.toList ds p := hA0
  rw [Try.params12] at hA hval
  obtain ⟨v0, vs0, d0, ds0, p0, q0, hargs, rfl, rfl, h0, r0⟩ := trodAll_cons hA
  obtain ⟨rfl, rfl, rfl⟩ := trodAll_nil r0
  obtain rfl : args = #[v0] := by cases args; simp_all
  obtain ⟨rfl, rfl⟩ := trodVars_none hV
  have lt0 : ∀ x ∈ p0, x.block < W.heap.size := by obtain ⟨m, hm⟩ := h0; exact DataW.trod_lt m _ _ _ hm
  have k0 := h0
  obtain ⟨a0, y0, b0⟩ := arg_cmd (B := 1048575) (hval 0 39 v0 rfl rfl) h0 (by have hb := of_decide_eq_true hk; simp only [Rows.uptoBulkAll, List.append_nil, List.cons_append, List.nil_append] at hb; omega)
  clear hA0 hval0
  have hb := of_decide_eq_true hk
  simp only [Rows.uptoBulkAll, Rows.uptoBulk, List.append_nil] at hb
  refine (Go.DS.start ext_ok (touchCells_lim a0 b0.path) W (vs := #[v0]) (.cons (y0) (.nil _))).mono fun e W' ⟨he, bel⟩ => ?_
  subst he
  exact ⟨_, rfl, _, _, _, [], _, [], hW', trodAll_mk1 (shut_bool Try.underlying4 _), (trodAll_cons_mk (Below.trod laidOut' (by kernel_rfl) (of_decide_eq_true (by kernel_rfl)) k0 bel lt0) trodAll_mk0), rfl, bel.frame _, fun h => by cases h⟩

set_option maxRecDepth 100000 in
theorem lifted (os : Os) (started : os.Started) (H : Type) (enc : TypeId × Value → H) (F : Stop.Interp) :
    ReturnsInHanded {} Try.checked os 12 .any ((Rows.OpenSpec.upto Rows.touchCellsSpec).pre6 enc Try.prog Try.f12 Rows.touchCellsUptoRow.domain false) (((Rows.OpenSpec.upto Rows.touchCellsSpec).at F).post enc Try.prog Try.f12 false true false false) := by
  refine returnsInHanded_of_cond (C := Try.checked) (s := Rows.OpenSpec.upto Rows.touchCellsSpec) (k := Rows.uptoSmall) rfl own' started (by kernel_rfl) Try.func12
    (OpenSpec.witness (enc := enc) (C := Try.checked) (s := Rows.OpenSpec.upto Rows.touchCellsSpec) (k := Rows.uptoSmall) rfl false ⟨#[], #[.agg #[.int .i64 0, .int .i64 0, .int .i64 0, .string ByteArray.empty, .string ByteArray.empty, .int .i64 0, .int .i64 0, .int .i64 0]], []⟩ 8 (by kernel_rfl) (by kernel_rfl) (by kernel_rfl)
      (x := ([.agg [.lit (.int .i64 0), .lit (.int .i64 0), .lit (.int .i64 0), .lit (.string []), .lit (.string []), .lit (.int .i64 0), .lit (.int .i64 0), .lit (.int .i64 0)]], [], [])) (by kernel_rfl) rfl (by kernel_rfl)) ?_
  intro W base args ds gs before hval hW _ hk _
  exact contract H enc W base args ds gs before hval hW hk

theorem over : Rows.touchCellsUptoRow.holds Try.pinned (Rows.OpenSpec.upto Rows.touchCellsSpec) :=
  OpenClaim.holds_of_cond 12 Try.f12 rfl rfl rfl rfl rfl rfl rfl ⟨rfl, rfl, rfl, rfl, rfl⟩ rfl rfl rfl rfl rfl (by kernel_rfl) Try.func12 (by kernel_rfl)
    (of_decide_eq_true (by kernel_rfl)) (by unfold Func.isWrapper; first | (rw [if_pos (by decide +kernel)]; kernel_rfl) | (rw [if_neg (by decide +kernel)]; exact ⟨rfl, rfl⟩))
    (fun os started H enc _ F => lifted os started H enc F)

theorem proved : Rows.TouchCellsUptoSaid := over
#print axioms proved
end Go.Proofs.Ytejkkmiaffbjbaa.touchCells
namespace Go.Proofs.Ytejkkmiaffbjbaa
theorem touchCells_holds : Rows.TouchCellsUptoSaid := touchCells.proved
end Go.Proofs.Ytejkkmiaffbjbaa
