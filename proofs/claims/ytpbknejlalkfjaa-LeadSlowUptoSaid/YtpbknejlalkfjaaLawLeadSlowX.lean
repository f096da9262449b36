/-
  Walks: the law LeadSlow.
-/
import Derived.Test.YtpbknejlalkfjaaHA
import Derived.WalkKit
import Derived.ProofKit
import Derived.OpenShut
import Derived.ShutString
import Derived.ChangeOld
import Derived.Below
import Derived.JoinedCond
import Derived.Carry
set_option linter.unusedSimpArgs false
set_option linter.unusedVariables false
namespace Go.DS
open Go Go.Proofs
set_option maxRecDepth 100000
set_option linter.unusedVariables false
set_option linter.unusedSimpArgs false
def cd4 : Cd := .seq (R [c0 5 (.new false (.s 2)), cb 6 (.mv (.c (kb false)))] [0, 1, 5, 8, 10]) (.seq (R [cb 15 (.call none (.c (kf 8)) []), cb 7 (.tk (.s 15))] [0, 1, 5, 7, 8, 10]) (.seq (.seq (R [cb 16 (.mv (.s 7)), cb 17 (.un .not (.s 16))] [0, 1, 5, 7, 8, 10, 17]) (.ite (.s 17) (.seq (R [cb 6 (.mv (.c (kb false)))] [5, 6, 8, 10]) (.ret)) (.skip))) (.seq (.seq (R (c0 18 (.mv (.s 0)) :: cb 19 (.bin .lss .any (.s 18) (.c (ki .i64 1))) :: cb 20 (.mv (.s 19)) :: cg 21 20 false (.mv (.s 0)) :: ch 22 20 false (.bin .gtr .any (.s 21) (.c (ki .i64 7))) :: cb 23 (.pick (.s 20) (.c (kb true)) (.s 22)) :: cb 24 (.mv (.s 23)) :: cg 25 24 false (.mv (.s 1)) :: ch 26 24 false (.bin .lss .any (.s 25) (.c (ki .i64 0))) :: cb 27 (.pick (.s 24) (.c (kb true)) (.s 26)) :: cb 28 (.mv (.s 27)) :: cg 29 28 false (.mv (.s 1)) :: cg 30 28 false (.mv (.s 0)) :: ch 31 28 false (.bin .gtr .any (.s 29) (.s 30)) :: cb 32 (.pick (.s 28) (.c (kb true)) (.s 31)) :: cb 33 (.mv (.s 32)) :: cg 34 33 false (.mov 1 (.s 5)) :: cg 35 33 false (.ld false 5 (.s 34)) :: cg 36 33 false (.len 1 (.s 35)) :: ch 37 33 false (.bin .gtr .any (.s 36) (.c (ki .i64 40))) :: cb 38 (.pick (.s 33) (.c (kb true)) (.s 37)) :: cb 39 (.mv (.s 38)) :: cg 40 39 false (.mov 0 (.s 5)) :: cg 41 39 false (.ld false 1 (.s 40)) :: ch 42 39 false (.bin .lss .any (.s 41) (.c (ki .i64 0))) :: cb 43 (.pick (.s 39) (.c (kb true)) (.s 42)) :: []) [0, 1, 5, 7, 8, 10, 43]) (.ite (.s 43) (.seq (R [cb 44 (.mv (.s 7)), cb 6 (.mv (.s 44))] [5, 6, 8, 10]) (.ret)) (.skip))) (.seq (R [c0 8 (.newz false [ki .i64 0, kn 1])] [0, 1, 5, 7, 8, 10]) (.seq (.seq (R [c0 9 (.tk (.c (ki .i64 0)))] [0, 1, 5, 7, 8, 9, 10]) (.block 0 (LP [0, 1, 5, 7, 8, 9, 10] (.seq (.seq (R [c0 45 (.mv (.s 9)), c0 46 (.mv (.s 0)), cb 47 (.bin .lss .any (.s 45) (.s 46))] [0, 1, 5, 7, 8, 9, 10, 47]) (.ite (.s 47) (.skip) (.exit 0))) (.seq (.block 1 (R [c0 50 (.mov 1 (.s 8)), c0 51 (.ldx true false 3 (.s 50)), c0 52 (.mv (.s 9)), c0 53 (.bsl 1 [(.s 52)]), c0 54 (.app 1 10 true (.s 51) (.s 53)), c0 55 (.mov 1 (.s 8)), cn (.st 1 (.s 55) (.s 54))] [0, 1, 5, 7, 8, 9, 10])) (R [c0 48 (.mv (.s 9)), c0 49 (.bin .add .any (.s 48) (.c (ki .i64 1))), c0 9 (.tk (.s 49))] [0, 1, 5, 7, 8, 9, 10])))))) (.seq (R [c0 56 (.bld [ki .i64 0, ki .i64 0, ki .i64 0] [(1, 1, (.c (ki .i64 0))), (2, 1, (.c (ki .i64 1)))]), c0 10 (.new false (.c (.agg [ki .i64 0, ki .i64 0, ki .i64 0]))), cn (.st 3 (.s 10) (.s 56))] [0, 1, 5, 7, 8, 10]) (.seq (R [c0 57 (.ld true 2 (.s 8)), c0 58 (.ld true 3 (.s 10)), c0 59 (.bld [ki .i64 0, ki .i64 0, ki .i64 0, ks [], ks [], ki .i64 0, ki .i64 0, ki .i64 0] [(0, 1, (.c (ki .i64 1)))]), c0 60 (.ld true 2 (.s 5)), c0 61 (.call none (.c (kf 17)) [(.s 57), (.c (ki .i64 0)), (.s 58), (.s 59), (.s 60)]), c0 11 (.tk (.s 61))] [0, 1, 5, 7, 8, 10, 11]) (.seq (.seq (R [c0 62 (.mv (.s 11)), cb 63 (.bin .eql .ptr (.s 62) (.c (.sc (.pointer none))))] [0, 1, 5, 7, 8, 10, 11, 63]) (.ite (.s 63) (.seq (R [cb 6 (.mv (.c (kb false)))] [5, 6, 8, 10]) (.ret)) (.skip))) (.seq (.seq (R [c0 12 (.tk (.c (ki .i64 0)))] [0, 1, 5, 7, 8, 10, 11, 12]) (.block 2 (LP [0, 1, 5, 7, 8, 10, 11, 12] (.seq (.seq (R [c0 64 (.mv (.s 12)), c0 65 (.mv (.s 1)), cb 66 (.bin .lss .any (.s 64) (.s 65))] [0, 1, 5, 7, 8, 10, 11, 12, 66]) (.ite (.s 66) (.skip) (.exit 2))) (.seq (.block 3 (R [c0 69 (.mv (.s 11)), c0 70 (.mv (.s 12)), c0 71 (.ld true 3 (.s 10)), c0 72 (.ld true 2 (.s 5)), c0 73 (.bld [ki .i64 0, ki .i64 0, ki .i64 0, ki .i64 0, ki .i64 0, ki .i64 0, ki .i64 0, ki .i64 0, ks [], ks [], ki .i64 0, ki .i64 0, ki .i64 0, ki .i64 0, kz 3] [(0, 1, (.c (ki .i64 1))), (13, 2, (.s 72))]), c0 74 (.bld [ki .i64 0, ki .i64 0, ki .i64 0, ki .i64 0, ki .i64 0, ki .i64 0, ki .i64 0, ki .i64 0, ki .i64 0, ki .i64 0, ki .i64 0, ki .i64 0, ki .i64 0, ki .i64 0, ki .i64 0, ki .i64 0, ks [], ks [], ki .i64 0, ki .i64 0, ki .i64 0, ki .i64 0, kz 3, ki .i64 0, kz 1, kz 3, kz 6] [(0, 1, (.c (ki .i64 1))), (1, 1, (.s 70)), (3, 3, (.s 71)), (8, 15, (.s 73))]), cb 75 (.call none (.c (kf 13)) [(.s 69), (.s 74)])] [0, 1, 5, 7, 8, 10, 11, 12])) (R [c0 67 (.mv (.s 12)), c0 68 (.bin .add .any (.s 67) (.c (ki .i64 1))), c0 12 (.tk (.s 68))] [0, 1, 5, 7, 8, 10, 11, 12])))))) (.seq (.seq (R [c0 76 (.mv (.s 1)), c0 77 (.mv (.s 0)), cb 78 (.bin .eql .any (.s 76) (.s 77))] [0, 1, 5, 7, 8, 10, 11, 78]) (.ite (.s 78) (.seq (R [cb 79 (.mv (.s 7)), cb 80 (.mv (.s 79)), cg 81 80 true (.mv (.s 11)), cg 82 80 true (.call none (.c (kf 12)) [(.s 81)]), ch 83 80 true (.bin .eql .any (.s 82) (.c (ki .i64 3))), cb 84 (.pick (.s 80) (.s 83) (.c (kb false))), cb 85 (.mv (.s 84)), cg 86 85 true (.mv (.s 11)), ch 87 85 true (.call none (.c (kf 15)) [(.s 86)]), ch 88 85 true (.un .not (.s 87)), cb 89 (.pick (.s 85) (.s 88) (.c (kb false))), cb 6 (.mv (.s 89))] [5, 6, 8, 10]) (.ret)) (.skip))) (.seq (.seq (R [c0 90 (.mv (.s 11)), c0 91 (.call none (.c (kf 12)) [(.s 90)]), cb 92 (.bin .neq .any (.s 91) (.c (ki .i64 0))), cb 93 (.mv (.s 92)), cg 94 93 false (.mv (.s 11)), cg 95 93 false (.call none (.c (kf 11)) [(.s 94)]), cg 96 93 false (.len 1 (.s 95)), cg 97 93 false (.mv (.s 0)), cg 98 93 false (.mv (.s 1)), cg 99 93 false (.bin .sub .any (.s 97) (.s 98)), ch 100 93 false (.bin .neq .any (.s 96) (.s 99)), cb 101 (.pick (.s 93) (.c (kb true)) (.s 100))] [0, 1, 5, 7, 8, 10, 11, 101]) (.ite (.s 101) (.seq (R [cb 6 (.mv (.c (kb false)))] [5, 6, 8, 10]) (.ret)) (.skip))) (.seq (R [c0 102 (.mv (.s 11)), cb 103 (.call none (.c (kf 15)) [(.s 102)]), cb 13 (.tk (.s 103))] [0, 1, 5, 7, 8, 10, 11, 13]) (.seq (.seq (R [cb 104 (.mv (.s 13)), c0 105 (.mv (.s 1)), c0 106 (.bin .mul .any (.c (ki .i64 2)) (.s 105)), c0 107 (.mv (.s 0)), cb 108 (.bin .gtr .any (.s 106) (.s 107)), cb 109 (.bin .neq .bool (.s 104) (.s 108))] [0, 5, 7, 8, 10, 11, 13, 109]) (.ite (.s 109) (.seq (R [cb 6 (.mv (.c (kb false)))] [5, 6, 8, 10]) (.ret)) (.skip))) (.seq (.seq (R [cb 110 (.mv (.s 13)), cb 111 (.un .not (.s 110))] [0, 5, 7, 8, 10, 11, 111]) (.ite (.s 111) (.seq (R [cb 112 (.mv (.s 7)), cb 113 (.mv (.s 112)), cg 114 113 true (.mv (.s 11)), cg 115 113 true (.call none (.c (kf 12)) [(.s 114)]), ch 116 113 true (.bin .eql .any (.s 115) (.c (ki .i64 0))), cb 117 (.pick (.s 113) (.s 116) (.c (kb false))), cb 6 (.mv (.s 117))] [5, 6, 8, 10]) (.ret)) (.skip))) (.seq (R [c0 14 (.tk (.c (ki .i64 0)))] [0, 5, 7, 8, 10, 11, 14]) (.seq (.block 4 (LP [0, 5, 7, 8, 10, 11, 14] (.seq (.seq (R [c0 118 (.mv (.s 11)), c0 119 (.call none (.c (kf 12)) [(.s 118)]), cb 120 (.bin .eql .any (.s 119) (.c (ki .i64 1))), cb 121 (.mv (.s 120)), cg 122 121 true (.mv (.s 14)), cg 123 121 true (.mv (.s 0)), ch 124 121 true (.bin .lss .any (.s 122) (.s 123)), cb 125 (.pick (.s 121) (.s 124) (.c (kb false)))] [0, 5, 7, 8, 10, 11, 14, 125]) (.ite (.s 125) (.skip) (.exit 4))) (.block 5 (.seq (R [c0 126 (.mv (.s 11)), c0 127 (.mv (.s 14)), c0 128 (.ld true 3 (.s 10)), c0 129 (.bld [ki .i64 0, ki .i64 0, ki .i64 0, ki .i64 0, ki .i64 0, ki .i64 0, ki .i64 0, ki .i64 0, ki .i64 0, ki .i64 0, ki .i64 0, ki .i64 0, ki .i64 0, ki .i64 0, ki .i64 0, ki .i64 0, ks [], ks [], ki .i64 0, ki .i64 0, ki .i64 0, ki .i64 0, kz 3, ki .i64 0, kz 1, kz 3, kz 6] [(0, 1, (.c (ki .i64 3))), (1, 1, (.s 127)), (3, 3, (.s 128))]), cb 130 (.call none (.c (kf 13)) [(.s 126), (.s 129)])] [0, 5, 7, 8, 10, 11, 14]) (R [c0 131 (.mv (.s 14)), c0 132 (.bin .add .any (.s 131) (.c (ki .i64 1))), c0 14 (.tk (.s 132))] [0, 5, 7, 8, 10, 11, 14])))))) (.seq (RD (cd (some 133) true none (.mv (.s 7)) false false [7] :: cd (some 134) true none (.mv (.s 133)) false false [133] :: cd (some 135) false (some (134, true)) (.mv (.s 11)) false false [11] :: cd (some 136) false (some (134, true)) (.call none (.c (kf 12)) [(.s 135)]) false false [135] :: cd (some 137) true (some (134, true)) (.bin .eql .any (.s 136) (.c (ki .i64 3))) false false [136] :: cd (some 138) true none (.pick (.s 134) (.s 137) (.c (kb false))) false false [134, 137] :: cd (some 139) true none (.mv (.s 138)) false false [138] :: cd (some 140) false (some (139, true)) (.mv (.s 14)) false false [14] :: cd (some 141) false (some (139, true)) (.mv (.s 0)) false false [0] :: cd (some 142) false (some (139, true)) (.bin .quo .any (.s 141) (.c (ki .i64 2))) false false [141] :: cd (some 143) false (some (139, true)) (.bin .add .any (.s 142) (.c (ki .i64 1))) false false [142] :: cd (some 144) true (some (139, true)) (.bin .eql .any (.s 140) (.s 143)) false false [140, 143] :: cd (some 145) true none (.pick (.s 139) (.s 144) (.c (kb false))) false false [139, 144] :: cd (some 146) true none (.mv (.s 145)) false false [145] :: cd (some 147) false (some (146, true)) (.mv (.s 11)) false false [11] :: cd (some 148) false (some (146, true)) (.call none (.c (kf 19)) [(.s 147)]) false false [147] :: cd (some 149) false (some (146, true)) (.fld 8 true 15 (.s 148)) false false [148] :: cd (some 150) false (some (146, true)) (.fld 13 true 2 (.s 149)) false false [149] :: cd (some 151) false (some (146, true)) (.ld true 2 (.s 5)) false false [5] :: cd (some 152) true (some (146, true)) (.call none (.c (kf 18)) [(.s 150), (.s 151)]) false false [150, 151] :: cd (some 153) true none (.pick (.s 146) (.s 152) (.c (kb false))) false false [146, 152] :: cd (some 6) true none (.mv (.s 153)) false false [153] :: []) [5, 6, 8, 10] [10, 292]) (.ret))))))))))))))))))
theorem fun4 : Fun Try.prog cfg 4 154 cd4 [.s 6] := ⟨rfl, Try.f4, _, Try.func4, rfl, rfl, by kernel_rfl, by kernel_rfl⟩
@[go_sem] theorem ok4 : calleeOK Try.prog 4 = true := by kernel_rfl
@[go_sem] theorem ex4 : (cfg.ext 4).isSome = false := rfl
variable {h : DHeap}
theorem slow_over16 {L : Ld} (h : L.ph ≠ 0) : slowL L = (false, L) := by unfold slowL; rw [if_neg (fun q => h q.1)]
theorem vnums_nodes (n : Nat) : vnums (nodesN n) ++ [[vi (n : Nat)]] = vnums (nodesN (n + 1)) := by rw [nodesN_succ]; simp [vnums]
theorem LS_W (n : Nat) (a : Att) (hn : n ≤ 40) (ha : a.deps.length ≤ 40) : LdW 0 (LS n a) := newL_W _ _ _ _ _ (by show (nodesN n).length ≤ _; rw [nodesN_len]; omega) (by omega)
theorem mP_ok (a : Att) (ha : a.deps.length ≤ 40) (k : Nat) : MesOK (mP a k) := ⟨by simp [mP, insS], by show a.deps.length ≤ _; omega⟩
theorem mA_ok (k : Nat) : MesOK (mA k) := ⟨by simp [mA, ins0], by simp [mA, ins0]⟩
set_option maxHeartbeats 8000000 in
theorem leadSlow_lim (n k : Int) (a : Att) : lim Try.prog cfg 4 [vi n, vi k, attD a] h = some (vb true, h) := by
  refine lim_funp fun4 rfl (by simp) (by simp [heapFree, heapFree.all, free_idr]) rfl ?_
  delta cd4
  have w := works16_lim (h := [])
  by_cases c1 : n < 1
  · simp -implicitDefEqProofs -dsimp (maxSteps := 300000) only [go_sem, w, eq_true c1]
  by_cases c2 : 7 < n
  · simp -implicitDefEqProofs -dsimp (maxSteps := 300000) only [go_sem, w, eq_false c1, eq_true c2]
  by_cases c3 : k < 0
  · simp -implicitDefEqProofs -dsimp (maxSteps := 300000) only [go_sem, w, eq_false c1, eq_false c2, eq_true c3]
  by_cases c4 : n < k
  · simp -implicitDefEqProofs -dsimp (maxSteps := 300000) only [go_sem, w, eq_false c1, eq_false c2, eq_false c3, eq_true c4]
  by_cases c5 : 40 < a.deps.length
  · have c5' : (40 : Int) < (a.deps.length : Int) := by omega
    simp -implicitDefEqProofs -dsimp (maxSteps := 300000) only [go_sem, w, eq_false c1, eq_false c2, eq_false c3, eq_false c4, eq_true c5']
  have c5' : ¬ (40 : Int) < (a.deps.length : Int) := by omega
  by_cases c6 : a.seq < 0
  · simp -implicitDefEqProofs -dsimp (maxSteps := 300000) only [go_sem, w, eq_false c1, eq_false c2, eq_false c3, eq_false c4, eq_false c5', eq_true c6]
  obtain ⟨n, rfl⟩ : ∃ m : Nat, n = m := ⟨n.toNat, by omega⟩
  obtain ⟨k, rfl⟩ : ∃ m : Nat, k = m := ⟨k.toNat, by omega⟩
  simp -implicitDefEqProofs -dsimp (maxSteps := 300000) only [go_sem, w, eq_false c1, eq_false c2, eq_false c3, eq_false c4, eq_false c5', eq_false c6]
  have hn1 : 1 ≤ n := by omega
  have hn7 : n ≤ 7 := by omega
  have hkn : k ≤ n := by omega
  have ha : a.deps.length ≤ 40 := by omega
  refine wp_for (σ := Nat) (fun i => [(0, vi (n : Nat)), (1, vi (k : Nat)), (5, .box [vi a.seq, .list false 3 (idr a.deps)]), (7, vb true), (8, .box [vi 0, .list true 1 (vnums (nodesN i))]), (9, vi (i : Nat)), (10, .junk)]) (fun _ => []) (fun i => n - i) (fun i => i ≤ n) 0 (Nat.zero_le _) rfl rfl ?_
  intro i hi N hN
  by_cases hlt : i < n
  · have h1 : (i : Int) < (n : Int) := by omega
    have hN' : N [(0, vi (n : Nat)), (1, vi (k : Nat)), (5, .box [vi a.seq, .list false 3 (idr a.deps)]), (7, vb true), (8, .box [vi 0, .list true 1 (vnums (nodesN i ++ [(i : Int)]))]), (9, vi ((i + 1 : Nat) : Int)), (10, .junk)] [] := by
      rw [← nodesN_succ]
      exact hN (i + 1) _ (by omega) (by omega) rfl
    have hmx : ((nodesN i).length + 1) * 10 ≤ maxLenD := by rw [nodesN_len]; unfold maxLenD; omega
    simp -implicitDefEqProofs -dsimp (maxSteps := 300000) only [go_sem, h1, hmx, wrap_succ (show i < 9223372036854775807 by omega)]
    exact hN'
  have h1 : ¬ (i : Int) < (n : Int) := by omega
  have hin : i = n := by omega
  subst hin
  clear hN hi hlt
  have n1 : lim Try.prog cfg 17 [.agg [vi 0, .list false 1 (vnums (nodesN i))], vi 0, .agg [vi 0, vi 0, vi 1], .agg [vi 1, vi 0, vi 0, vs [], vs [], vi 0, vi 0, vi 0], attD a] [] = some (.ptr 0 0, HL (LS i a)) := newHL_lim ⟨0, nodesN i⟩ 0 ⟨0, 0, 1⟩ ⟨1, 0, 0, [], [], 0, 0, 0⟩ a (by show (nodesN i).length ≤ _; rw [nodesN_len]; omega) (by omega)
  have W0 := LS_W i a (by omega) ha
  simp -implicitDefEqProofs -dsimp (maxSteps := 300000) only [go_sem, h1, n1]
  clear n1 h1
  refine wp_for (σ := Nat) (fun j => [(0, vi (i : Nat)), (1, vi (k : Nat)), (5, .box [vi a.seq, .list false 3 (idr a.deps)]), (7, vb true), (8, .box [vi 0, .list true 1 (vnums (nodesN i))]), (10, .box [vi 0, vi 0, vi 1]), (11, .ptr 0 0), (12, vi (j : Nat))]) (fun j => HL (hearsL (LS i a) (msP a j))) (fun j => k - j) (fun j => j ≤ k) 0 (Nat.zero_le _) rfl rfl ?_
  intro j hj N hN
  have Wj : LdW 40 (hearsL (LS i a) (msP a j)) := (W0.hears (msP a j) fun m hm => by
    obtain ⟨q, _, rfl⟩ := List.mem_map.1 hm
    exact mP_ok a ha q).mono (by simp [msP]; omega)
  by_cases hlt : j < k
  · have h1 : (j : Int) < (k : Int) := by omega
    have e : lim Try.prog cfg 13 [.ptr 0 0, .agg [vi 1, vi (j : Nat), vi 0, vi 0, vi 0, vi 1, vi 0, vi 0, vi 1, vi 0, vi 0, vi 0, vi 0, vi 0, vi 0, vi 0, vs [], vs [], vi 0, vi 0, vi 0, vi a.seq, .list false 3 (idr a.deps), vi 0, .list false 1 [], .list false 3 [], .list false 6 []]] (HL (hearsL (LS i a) (msP a j))) = some (vb (hearL (hearsL (LS i a) (msP a j)) (mP a j)).1, HL (hearsL (LS i a) (msP a (j + 1)))) := by
      rw [msP_succ, hearsL_snoc]
      exact hearHL_lim Wj (by omega) (mP a j) (mP_ok a ha j)
    have hN' : N [(0, vi (i : Nat)), (1, vi (k : Nat)), (5, .box [vi a.seq, .list false 3 (idr a.deps)]), (7, vb true), (8, .box [vi 0, .list true 1 (vnums (nodesN i))]), (10, .box [vi 0, vi 0, vi 1]), (11, .ptr 0 0), (12, vi ((j + 1 : Nat) : Int))] (HL (hearsL (LS i a) (msP a (j + 1)))) := hN (j + 1) _ (by omega) (by omega) rfl
    generalize (hearL (hearsL (LS i a) (msP a j)) (mP a j)).1 = r at e
    cases r <;> simp -implicitDefEqProofs -dsimp (maxSteps := 300000) only [go_sem, h1, e, wrap_succ (show j < 9223372036854775807 by omega)] <;> exact hN'
  have h1 : ¬ (j : Int) < (k : Int) := by omega
  have hjk : j = k := by omega
  subst hjk
  clear hN hj hlt W0
  have ep := phaseHL_lim Wj
  have ew := waitHL_lim Wj (by omega)
  have es := slowHL_lim Wj (by omega)
  by_cases hji : j = i
  · subst hji
    rw [hears_all a hn1] at ep es
    rw [hears_all a hn1]
    rw [slow_over16 (by show (3 : Int) ≠ 0; omega)] at es
    have ep : lim Try.prog cfg 12 [.ptr 0 0] (HL (turnL { LS j a with vo := vS (insS a) j, rw := false } 3 ⟨1, 0, 0, [], [], 0, 0, 0⟩ a)) = some (vi 3, HL (turnL { LS j a with vo := vS (insS a) j, rw := false } 3 ⟨1, 0, 0, [], [], 0, 0, 0⟩ a)) := ep
    generalize HL (turnL { LS j a with vo := vS (insS a) j, rw := false } 3 ⟨1, 0, 0, [], [], 0, 0, 0⟩ a) = H0 at *
    simp -implicitDefEqProofs -dsimp (maxSteps := 300000) only [go_sem, h1, ep, es]
  have hlt : j < i := by omega
  have hji' : ¬ (j : Int) = (i : Int) := by omega
  rw [hears_P16 a j hlt] at ep ew es Wj
  rw [hears_P16 a j hlt]
  have hwl := wait_vS (L := { LS i a with vo := vS (insS a) j, rw := decide (j = 0) }) (n := i) (k := j) (x := insS a) rfl rfl rfl
  rw [slow_P16 a _ hn1 (by omega)] at es
  have ep : lim Try.prog cfg 12 [.ptr 0 0] (HL { LS i a with vo := vS (insS a) j, rw := decide (j = 0) }) = some (vi 0, HL { LS i a with vo := vS (insS a) j, rw := decide (j = 0) }) := ep
  generalize waitL { LS i a with vo := vS (insS a) j, rw := decide (j = 0) } = wl at *
  have hwl' : (wl.length : Int) = (i : Int) - (j : Int) := by omega
  have ws : IntKind.wrap .i64 ((i : Int) - (j : Int)) = (i : Int) - (j : Int) := wrap64 (by omega) (by omega)
  have wm : IntKind.wrap .i64 (2 * (j : Int)) = 2 * (j : Int) := wrap64 (by omega) (by omega)
  by_cases hq : i / 2 + 1 ≤ j
  case neg =>
    rw [if_neg hq] at es
    have hq' : ¬ (i : Int) < 2 * (j : Int) := by omega
    generalize HL { LS i a with vo := vS (insS a) j, rw := decide (j = 0) } = H0 at *
    simp -implicitDefEqProofs -dsimp (maxSteps := 300000) only [go_sem, h1, ep, es, ew, eq_false hji', hwl', ws, wm, eq_false hq']
  rw [if_pos hq] at es
  have hq' : (i : Int) < 2 * (j : Int) := by omega
  rw [attrs_vS] at es
  obtain ⟨s1, s2⟩ := all_same a (k := j) (by omega)
  have hal : (allA (List.replicate j a)).deps.length ≤ 400 := by
    have h3 := allA_len (List.replicate j a) 40 fun x hx => by rw [List.eq_of_mem_replicate hx]; exact ha
    rw [List.length_replicate] at h3
    have h4 := Nat.mul_le_mul_right 40 (show j ≤ 7 by omega)
    omega
  have hW1 : LdW 101 (LA i j a (allA (List.replicate j a)) 0) := by
    have := slow_W Wj (by omega)
    rw [slow_P16 a _ hn1 (by omega), if_pos hq, attrs_vS] at this
    exact this
  generalize hb : allA (List.replicate j a) = b at *
  have es : lim Try.prog cfg 15 [.ptr 0 0] (HL { LS i a with vo := vS (insS a) j, rw := decide (j = 0) }) = some (vb true, HL (LA i j a b 0)) := es
  generalize HL { LS i a with vo := vS (insS a) j, rw := decide (j = 0) } = H0 at *
  simp -implicitDefEqProofs -dsimp (maxSteps := 300000) only [go_sem, h1, ep, es, ew, eq_false hji', hwl', ws, wm, eq_true hq']
  have hWA : ∀ q, q ≤ 8 → LdW 8 (LA i j a b q) := fun q hq => ⟨⟨by show (nodesN i).length ≤ _; rw [nodesN_len]; omega, by show (vS ins0 q).length ≤ 8; rw [vS_len]; exact hq, by show b.deps.length ≤ _; omega, fun v hv => by
    obtain ⟨r, _, rfl⟩ := List.mem_map.1 hv
    simp [ins0]⟩, fun h => by cases h⟩
  have hT : hearL (LA i j a b (i / 2)) (mA (i / 2)) = (true, turnL (LA i j a b (i / 2 + 1)) 3 ⟨1, 0, 0, [], [], 0, 0, 0⟩ b) := by rw [hear_A16 a b hn1 (by omega), if_pos (Nat.le_refl _)]
  have hWT : LdW 9 (turnL (LA i j a b (i / 2 + 1)) 3 ⟨1, 0, 0, [], [], 0, 0, 0⟩ b) := by
    have := (hWA (i / 2) (by omega)).hear (mA_ok (i / 2))
    rw [hT] at this
    exact this
  refine wp_for (σ := Nat) (fun q => [(0, vi (i : Nat)), (5, .box [vi a.seq, .list false 3 (idr a.deps)]), (7, vb true), (8, .box [vi 0, .list true 1 (vnums (nodesN i))]), (10, .box [vi 0, vi 0, vi 1]), (11, .ptr 0 0), (14, vi (q : Nat))]) (fun q => HL (if q < i / 2 + 1 then LA i j a b q else turnL (LA i j a b (i / 2 + 1)) 3 ⟨1, 0, 0, [], [], 0, 0, 0⟩ b)) (fun q => i / 2 + 1 - q) (fun q => q ≤ i / 2 + 1) 0 (Nat.zero_le _) rfl (by rw [if_pos (by omega)]) ?_
  intro q hq2 N hN
  by_cases hlt2 : q < i / 2 + 1
  · have hqi : (q : Int) < (i : Int) := by omega
    have ep := phaseHL_lim (hWA q (by omega))
    have ep : lim Try.prog cfg 12 [.ptr 0 0] (HL (LA i j a b q)) = some (vi 1, HL (LA i j a b q)) := ep
    have e0 := hearHL_lim (hWA q (by omega)) (by omega) (mA q) (mA_ok q)
    have hnx : (hearL (LA i j a b q) (mA q)).2 = (if q + 1 < i / 2 + 1 then LA i j a b (q + 1) else turnL (LA i j a b (i / 2 + 1)) 3 ⟨1, 0, 0, [], [], 0, 0, 0⟩ b) := by
      rw [hear_A16 a b hn1 (by omega)]
      by_cases h : i / 2 + 1 ≤ q + 1
      · have : q = i / 2 := by omega
        subst this
        rw [if_pos h, if_neg (by omega)]
      · rw [if_neg h, if_pos (by omega)]
    rw [hnx] at e0
    generalize (hearL (LA i j a b q) (mA q)).1 = r at e0
    have e : lim Try.prog cfg 13 [.ptr 0 0, .agg [vi 3, vi (q : Nat), vi 0, vi 0, vi 0, vi 1, vi 0, vi 0, vi 0, vi 0, vi 0, vi 0, vi 0, vi 0, vi 0, vi 0, vs [], vs [], vi 0, vi 0, vi 0, vi 0, .list false 3 [], vi 0, .list false 1 [], .list false 3 [], .list false 6 []]] (HL (LA i j a b q)) = some (vb r, HL (if q + 1 < i / 2 + 1 then LA i j a b (q + 1) else turnL (LA i j a b (i / 2 + 1)) 3 ⟨1, 0, 0, [], [], 0, 0, 0⟩ b)) := e0
    have hN' : N [(0, vi (i : Nat)), (5, .box [vi a.seq, .list false 3 (idr a.deps)]), (7, vb true), (8, .box [vi 0, .list true 1 (vnums (nodesN i))]), (10, .box [vi 0, vi 0, vi 1]), (11, .ptr 0 0), (14, vi ((q + 1 : Nat) : Int))] (HL (if q + 1 < i / 2 + 1 then LA i j a b (q + 1) else turnL (LA i j a b (i / 2 + 1)) 3 ⟨1, 0, 0, [], [], 0, 0, 0⟩ b)) := hN (q + 1) _ (by omega) (by omega) rfl
    rw [if_pos hlt2]
    generalize HL (if q + 1 < i / 2 + 1 then LA i j a b (q + 1) else turnL (LA i j a b (i / 2 + 1)) 3 ⟨1, 0, 0, [], [], 0, 0, 0⟩ b) = H1 at *
    generalize HL (LA i j a b q) = H0 at *
    cases r <;> simp -implicitDefEqProofs -dsimp (maxSteps := 300000) only [go_sem, ep, e, hqi, wrap_succ (show q < 9223372036854775807 by omega)] <;> exact hN'
  have hqe : q = i / 2 + 1 := by omega
  subst hqe
  rw [if_neg hlt2]
  clear hN hq2 hlt2
  have epz : lim Try.prog cfg 12 [.ptr 0 0] (HL (turnL (LA i j a b (i / 2 + 1)) 3 ⟨1, 0, 0, [], [], 0, 0, 0⟩ b)) = some (vi 3, HL (turnL (LA i j a b (i / 2 + 1)) 3 ⟨1, 0, 0, [], [], 0, 0, 0⟩ b)) := phaseHL_lim hWT
  have ea := askHL_lim hWT (by omega)
  have hy : (askL (turnL (LA i j a b (i / 2 + 1)) 3 ⟨1, 0, 0, [], [], 0, 0, 0⟩ b)).ins.att = b := by
    have e3 : (turnL (LA i j a b (i / 2 + 1)) 3 ⟨1, 0, 0, [], [], 0, 0, 0⟩ b).ph = 3 := rfl
    unfold askL
    rw [if_neg (by rw [e3]; omega), if_neg (by rw [e3]; omega), if_neg (by rw [e3]; omega), if_pos e3]
    rfl
  generalize askL (turnL (LA i j a b (i / 2 + 1)) 3 ⟨1, 0, 0, [], [], 0, 0, 0⟩ b) = y at *
  generalize HL (turnL (LA i j a b (i / 2 + 1)) 3 ⟨1, 0, 0, [], [], 0, 0, 0⟩ b) = H0 at *
  have es := rsameA_eq (h := H0) y.ins.att a (by rw [hy]; exact s1) (by rw [hy]; exact s2) (by rw [hy]; omega) (by omega)
  have w1 : IntKind.wrap .i64 ((i : Int).tdiv 2) = ((i / 2 : Nat) : Int) := by
    rw [Int.tdiv_eq_ediv_of_nonneg (by omega), wrap64 (by omega) (by omega)]; omega
  have w2 := wrap_succ (show i / 2 < 9223372036854775807 by omega)
  generalize i / 2 + 1 = q at *
  simp -implicitDefEqProofs -dsimp (maxSteps := 300000) only [go_sem, ↓wp_RDc, postC_path2, Nat.reduceDiv, epz, ea, es, w1, w2]
end Go.DS

/-
  The row LeadSlow.
-/
namespace Go.Proofs.Ytpbknejlalkfjaa.leadSlow
open Go.ChangeShapes Go.WideShapes Go.ChangeAt Go.RowKit
open Go.ChangeMaps (open_string shut_string)
open Go.DS
set_option linter.unusedVariables false
set_option linter.unusedSimpArgs false

set_option maxRecDepth 100000 in
theorem contract (H : Type) (enc : TypeId × Value → H) (W : World) (base : Nat) (args : Array Value) (ds gs : List (DataW H)) (before : List MemPlace)
    (hval0 : ∀ (j : Nat) t v, Try.f4.params[j]? = some t → args[j]? = some v → Value.okWide Try.prog W .any base t v)
    (hW : DataW.Whole enc Try.prog Try.f4.params.toList Rows.leadSlowSpec.vars false W args.toList ds gs before) (hk : Rows.uptoSmall H (ds ++ gs) = true) :
    Calls Try.prog 4 args W fun e W' => ∃ v, e = .returned v ∧ Rows.leadSlowSpec.post enc Try.prog Try.f4 false true false false W args v W' := by
  have hval : ∀ (j : Nat) t v, Try.f4.params[j]? = some t → args[j]? = some v → Value.okWide Try.prog W .any base t v := hval0
  have hW' := hW
  obtain ⟨p, q, hA0, hV, rfl, hfz, hnd⟩ := hW
  have hA : DataW.TrodAll enc Try.prog W 0 (fun _ => true) true Try.f4.params.toList args.toList ds p := hA0
  rw [Try.params4] at hA hval
  obtain ⟨v0, vs0, d0, ds0, p0, q0, hargs, rfl, rfl, h0, r0⟩ := trodAll_cons hA
  obtain ⟨v1, vs1, d1, ds1, p1, q1, rfl, rfl, rfl, h1, r1⟩ := trodAll_cons r0
  obtain ⟨v2, vs2, d2, ds2, p2, q2, rfl, rfl, rfl, h2, r2⟩ := trodAll_cons r1
  obtain ⟨rfl, rfl, rfl⟩ := trodAll_nil r2
  obtain rfl : args = #[v0, v1, v2] := by cases args; simp_all
  obtain ⟨rfl, rfl⟩ := trodVars_none hV
  have lt0 : ∀ x ∈ p0, x.block < W.heap.size := by obtain ⟨m, hm⟩ := h0; exact DataW.trod_lt m _ _ _ hm
  have k0 := h0
  obtain ⟨a0, rfl, rfl, rfl, y0⟩ := open_int Try.underlying3 (hval 0 3 v0 rfl rfl) h0
  have lt1 : ∀ x ∈ p1, x.block < W.heap.size := by obtain ⟨m, hm⟩ := h1; exact DataW.trod_lt m _ _ _ hm
  have k1 := h1
  obtain ⟨a1, rfl, rfl, rfl, y1⟩ := open_int Try.underlying3 (hval 1 3 v1 rfl rfl) h1
  have lt2 : ∀ x ∈ p2, x.block < W.heap.size := by obtain ⟨m, hm⟩ := h2; exact DataW.trod_lt m _ _ _ hm
  have k2 := h2
  obtain ⟨a2, y2, b2⟩ := arg_att (B := 1048575) (hval 2 36 v2 rfl rfl) h2 (by have hb := of_decide_eq_true hk; simp only [Rows.uptoBulkAll, List.append_nil, List.cons_append, List.nil_append] at hb; omega)
  clear hA0 hval0
  have hb := of_decide_eq_true hk
  simp only [Rows.uptoBulkAll, Rows.uptoBulk, List.append_nil] at hb
  refine (Go.DS.start ext_ok (leadSlow_lim a0 a1 a2) W (vs := #[.int .i64 a0, .int .i64 a1, v2]) (.cons (.sc _) (.cons (.sc _) (.cons (y2) (.nil _))))).mono fun e W' ⟨he, bel⟩ => ?_
  subst he
  exact ⟨_, rfl, _, _, _, [], _, [], hW', trodAll_mk1 (shut_bool Try.underlying4 _), (trodAll_cons_mk (Below.trod laidOut' (by kernel_rfl) (of_decide_eq_true (by kernel_rfl)) k0 bel lt0) (trodAll_cons_mk (Below.trod laidOut' (by kernel_rfl) (of_decide_eq_true (by kernel_rfl)) k1 bel lt1) (trodAll_cons_mk (Below.trod laidOut' (by kernel_rfl) (of_decide_eq_true (by kernel_rfl)) k2 bel lt2) trodAll_mk0))), rfl, bel.frame _, fun h => by cases h⟩

set_option maxRecDepth 100000 in
theorem lifted (os : Os) (started : os.Started) (H : Type) (enc : TypeId × Value → H) (F : Stop.Interp) :
    ReturnsInHanded {} Try.checked os 4 .any ((Rows.OpenSpec.upto Rows.leadSlowSpec).pre6 enc Try.prog Try.f4 Rows.leadSlowUptoRow.domain false) (((Rows.OpenSpec.upto Rows.leadSlowSpec).at F).post enc Try.prog Try.f4 false true false false) := by
  refine returnsInHanded_of_cond (C := Try.checked) (s := Rows.OpenSpec.upto Rows.leadSlowSpec) (k := Rows.uptoSmall) rfl own' started (by kernel_rfl) Try.func4
    (OpenSpec.witness (enc := enc) (C := Try.checked) (s := Rows.OpenSpec.upto Rows.leadSlowSpec) (k := Rows.uptoSmall) rfl false ⟨#[], #[.int .i64 0, .int .i64 0, .agg #[.int .i64 0, .slice none 0 0]], []⟩ 8 (by kernel_rfl) (by kernel_rfl) (by kernel_rfl)
      (x := ([.lit (.int .i64 0), .lit (.int .i64 0), .agg [.lit (.int .i64 0), .nil]], [], [])) (by kernel_rfl) rfl (by kernel_rfl)) ?_
  intro W base args ds gs before hval hW _ hk _
  exact contract H enc W base args ds gs before hval hW hk

theorem over : Rows.leadSlowUptoRow.holds Try.pinned (Rows.OpenSpec.upto Rows.leadSlowSpec) :=
  OpenClaim.holds_of_cond 4 Try.f4 rfl rfl rfl rfl rfl rfl rfl ⟨rfl, rfl, rfl, rfl, rfl⟩ rfl rfl rfl rfl rfl (by kernel_rfl) Try.func4 (by kernel_rfl)
    (of_decide_eq_true (by kernel_rfl)) (by unfold Func.isWrapper; first | (rw [if_pos (by decide +kernel)]; kernel_rfl) | (rw [if_neg (by decide +kernel)]; exact ⟨rfl, rfl⟩))
    (fun os started H enc _ F => lifted os started H enc F)

theorem proved : Rows.LeadSlowUptoSaid := over
#print axioms proved
end Go.Proofs.Ytpbknejlalkfjaa.leadSlow
namespace Go.Proofs.Ytpbknejlalkfjaa
theorem leadSlow_holds : Rows.LeadSlowUptoSaid := leadSlow.proved
end Go.Proofs.Ytpbknejlalkfjaa
