/-
  Walks: the law AcceptRises.
-/
import Derived.Test.YtfmhhincdemhdaaGreatH9
import Derived.WalkKit
import Derived.ProofKit
import Derived.OpenShut
import Derived.ShutString
import Derived.ChangeOld
import Derived.Below
import Derived.JoinedCond
import Derived.Carry
set_option linter.unusedSimpArgs false
set_option linter.unusedVariables false
namespace Go.DS
open Go Go.Proofs
set_option maxRecDepth 100000
set_option linter.unusedVariables false
set_option linter.unusedSimpArgs false
def cd4 : Cd := .seq (R [c0 4 (.new false (.s 1)), cb 6 (.tk (.c (kb false)))] [0, 2, 4, 10, 12]) (.seq (R [cb 15 (.call none (.c (kf 11)) []), cb 7 (.tk (.s 15))] [0, 2, 4, 7, 10, 12]) (.seq (.seq (R [cb 16 (.mv (.s 7)), cb 17 (.un .not (.s 16))] [0, 2, 4, 7, 10, 12, 17]) (.ite (.s 17) (.seq (R [cb 6 (.tk (.c (kb false)))] [4, 6, 10, 12]) (.ret)) (.skip))) (.seq (.seq (R [c0 18 (.mv (.s 2)), cb 19 (.call none (.c (kf 12)) [(.s 18)]), cb 20 (.mv (.s 19)), cg 21 20 false (.mov 1 (.s 4)), cg 22 20 false (.ld false 3 (.s 21)), cg 23 20 false (.len 1 (.s 22)), ch 24 20 false (.bin .gtr .any (.s 23) (.c (ki .i64 40))), cb 25 (.pick (.s 20) (.c (kb true)) (.s 24))] [0, 2, 4, 7, 10, 12, 25]) (.ite (.s 25) (.seq (R [cb 26 (.mv (.s 7)), cb 6 (.tk (.s 26))] [4, 6, 10, 12]) (.ret)) (.skip))) (.seq (R [c0 27 (.mv (.s 0)), c0 28 (.ld true 2 (.s 4)), c0 29 (.call none (.c (kf 13)) [(.s 27), (.s 28)]), c0 8 (.tk (.s 29))] [0, 2, 4, 7, 8, 10, 12]) (.seq (.seq (R [c0 9 (.tk (.c (ki .i64 0)))] [0, 2, 4, 7, 8, 9, 10, 12]) (.block 0 (LP [0, 2, 4, 7, 8, 9, 10, 12] (.seq (.seq (R [c0 30 (.mv (.s 9)), c0 31 (.mv (.s 2)), c0 32 (.len 1 (.s 31)), cb 33 (.bin .lss .any (.s 30) (.s 32))] [0, 2, 4, 7, 8, 9, 10, 12, 33]) (.ite (.s 33) (.skip) (.exit 0))) (.seq (.block 1 (.seq (R [c0 36 (.mv (.s 8)), c0 37 (.mv (.s 2)), c0 38 (.mv (.s 9)), c0 39 (.ixp 27 (.s 37) (.s 38)), c0 40 (.mov 3 (.s 39)), c0 41 (.ld true 3 (.s 40)), c0 42 (.call none (.c (kf 20)) [(.s 36), (.s 41)]), c0 10 (.new false (.c (.agg [ki .i64 0, ki .i64 0, ki .i64 0, ki .i64 0, ki .i64 0, ki .i64 0, ki .i64 0, ki .i64 0, ks [], ks [], ki .i64 0, ki .i64 0, ki .i64 0, ki .i64 0, kn 3]))), cn (.st 15 (.s 10) (.s 42))] [0, 2, 4, 7, 8, 9, 10, 12]) (.seq (R [c0 43 (.mv (.s 8)), c0 44 (.mv (.s 2)), c0 45 (.mv (.s 9)), c0 46 (.ixp 27 (.s 44) (.s 45)), c0 47 (.ld true 27 (.s 46)), c0 48 (.call none (.c (kf 16)) [(.s 43), (.s 47)]), c0 11 (.tk (.s 48))] [0, 2, 4, 7, 8, 9, 10, 11, 12]) (.seq (R [c0 49 (.mv (.s 8)), c0 50 (.mv (.s 2)), c0 51 (.mv (.s 9)), c0 52 (.ixp 27 (.s 50) (.s 51)), c0 53 (.mov 3 (.s 52)), c0 54 (.ld true 3 (.s 53)), c0 55 (.call none (.c (kf 20)) [(.s 49), (.s 54)]), c0 12 (.new false (.c (.agg [ki .i64 0, ki .i64 0, ki .i64 0, ki .i64 0, ki .i64 0, ki .i64 0, ki .i64 0, ki .i64 0, ks [], ks [], ki .i64 0, ki .i64 0, ki .i64 0, ki .i64 0, kn 3]))), cn (.st 15 (.s 12) (.s 55))] [0, 2, 4, 7, 8, 9, 10, 11, 12]) (.seq (.seq (R (c0 56 (.mov 1 (.s 12)) :: c0 57 (.ld true 2 (.s 56)) :: c0 58 (.mov 1 (.s 10)) :: c0 59 (.ld true 2 (.s 58)) :: cb 60 (.call none (.c (kf 26)) [(.s 57), (.s 59)]) :: cb 61 (.mv (.s 60)) :: cg 62 61 false (.mov 0 (.s 10)) :: cg 63 61 false (.ld false 1 (.s 62)) :: ch 64 61 false (.bin .eql .any (.s 63) (.c (ki .i64 3))) :: ch 65 61 false (.mv (.s 64)) :: cg 66 65 true (.ld true 15 (.s 10)) :: cg 67 65 true (.ld true 15 (.s 12)) :: ch 68 65 true (.call none (.c (kf 19)) [(.s 66), (.s 67)]) :: ch 69 65 true (.un .not (.s 68)) :: ch 70 61 false (.pick (.s 65) (.s 69) (.c (kb false))) :: cb 71 (.pick (.s 61) (.c (kb true)) (.s 70)) :: cb 72 (.mv (.s 71)) :: cg 73 72 false (.mov 0 (.s 12)) :: cg 74 72 false (.ld false 1 (.s 73)) :: cg 75 72 false (.mov 0 (.s 10)) :: cg 76 72 false (.ld false 1 (.s 75)) :: ch 77 72 false (.bin .lss .any (.s 74) (.s 76)) :: ch 78 72 false (.mv (.s 77)) :: cg 79 78 true (.mov 0 (.s 10)) :: cg 80 78 true (.ld false 1 (.s 79)) :: ch 81 78 true (.bin .eql .any (.s 80) (.c (ki .i64 3))) :: ch 82 78 true (.mv (.s 81)) :: cg 83 82 false (.mv (.s 2)) :: cg 84 82 false (.mv (.s 9)) :: cg 85 82 false (.ixp 27 (.s 83) (.s 84)) :: cg 86 82 false (.mov 0 (.s 85)) :: cg 87 82 false (.ld false 1 (.s 86)) :: ch 88 82 false (.bin .neq .any (.s 87) (.c (ki .i64 0))) :: ch 89 78 true (.pick (.s 82) (.c (kb true)) (.s 88)) :: ch 90 72 false (.pick (.s 78) (.s 89) (.c (kb false))) :: cb 91 (.pick (.s 72) (.c (kb true)) (.s 90)) :: []) [0, 2, 4, 7, 8, 9, 10, 11, 12, 91]) (.ite (.s 91) (.seq (R [cb 6 (.tk (.c (kb false)))] [4, 6, 10, 12]) (.ret)) (.skip))) (.seq (R [c0 13 (.tk (.c (ki .i64 0)))] [0, 2, 4, 7, 8, 9, 10, 11, 12, 13]) (.block 2 (LP [0, 2, 4, 7, 8, 9, 10, 11, 12, 13] (.seq (.seq (R [c0 92 (.mv (.s 13)), c0 93 (.mv (.s 11)), c0 94 (.len 1 (.s 93)), cb 95 (.bin .lss .any (.s 92) (.s 94))] [0, 2, 4, 7, 8, 9, 10, 11, 12, 13, 95]) (.ite (.s 95) (.skip) (.exit 2))) (.seq (.block 3 (.seq (R (c0 98 (.mv (.s 11)) :: c0 99 (.mv (.s 13)) :: c0 100 (.ixp 27 (.s 98) (.s 99)) :: c0 101 (.mov 0 (.s 100)) :: c0 102 (.ld false 1 (.s 101)) :: cb 103 (.bin .eql .any (.s 102) (.c (ki .i64 1))) :: cb 104 (.mv (.s 103)) :: cg 105 104 false (.mv (.s 11)) :: cg 106 104 false (.mv (.s 13)) :: cg 107 104 false (.ixp 27 (.s 105) (.s 106)) :: cg 108 104 false (.mov 0 (.s 107)) :: cg 109 104 false (.ld false 1 (.s 108)) :: ch 110 104 false (.bin .eql .any (.s 109) (.c (ki .i64 3))) :: cb 111 (.pick (.s 104) (.c (kb true)) (.s 110)) :: cb 112 (.mv (.s 111)) :: cg 113 112 false (.mv (.s 11)) :: cg 114 112 false (.mv (.s 13)) :: cg 115 112 false (.ixp 27 (.s 113) (.s 114)) :: cg 116 112 false (.mov 0 (.s 115)) :: cg 117 112 false (.ld false 1 (.s 116)) :: ch 118 112 false (.bin .eql .any (.s 117) (.c (ki .i64 6))) :: cb 119 (.pick (.s 112) (.c (kb true)) (.s 118)) :: cb 14 (.tk (.s 119)) :: []) [0, 2, 4, 7, 8, 9, 10, 11, 12, 13, 14]) (.seq (.seq (RD (cd (some 120) false none (.mv (.s 11)) false false [11] :: cd (some 121) false none (.mv (.s 13)) false false [13] :: cd (some 122) false none (.ixp 27 (.s 120) (.s 121)) false false [120, 121] :: cd (some 123) false none (.mov 1 (.s 122)) false false [122] :: cd (some 124) false none (.ld false 1 (.s 123)) false false [123] :: cd (some 125) false none (.mv (.s 0)) false false [0] :: cd (some 126) true none (.bin .neq .any (.s 124) (.s 125)) false false [124, 125] :: cd (some 127) true none (.mv (.s 126)) false false [126] :: cd (some 128) false (some (127, false)) (.mv (.s 11)) false false [11] :: cd (some 129) false (some (127, false)) (.mv (.s 13)) false false [13] :: cd (some 130) false (some (127, false)) (.ixp 27 (.s 128) (.s 129)) false false [128, 129] :: cd (some 131) false (some (127, false)) (.mov 2 (.s 130)) false false [130] :: cd (some 132) false (some (127, false)) (.ld false 1 (.s 131)) false false [131] :: cd (some 133) false (some (127, false)) (.mv (.s 2)) false false [2] :: cd (some 134) false (some (127, false)) (.mv (.s 9)) false false [9] :: cd (some 135) false (some (127, false)) (.ixp 27 (.s 133) (.s 134)) false false [133, 134] :: cd (some 136) false (some (127, false)) (.mov 1 (.s 135)) false false [135] :: cd (some 137) false (some (127, false)) (.ld false 1 (.s 136)) false false [136] :: cd (some 138) true (some (127, false)) (.bin .neq .any (.s 132) (.s 137)) false false [132, 137] :: cd (some 139) true none (.pick (.s 127) (.c (kb true)) (.s 138)) false false [127, 138] :: cd (some 140) true none (.mv (.s 139)) false false [139] :: cd (some 141) false (some (140, false)) (.mv (.s 11)) false false [11] :: cd (some 142) false (some (140, false)) (.mv (.s 13)) false false [13] :: cd (some 143) false (some (140, false)) (.ixp 27 (.s 141) (.s 142)) false false [141, 142] :: cd (some 144) false (some (140, false)) (.mov 3 (.s 143)) false false [143] :: cd (some 145) false (some (140, false)) (.ld true 3 (.s 144)) false false [144] :: cd (some 146) false (some (140, false)) (.mv (.s 2)) false false [2] :: cd (some 147) false (some (140, false)) (.mv (.s 9)) false false [9] :: cd (some 148) false (some (140, false)) (.ixp 27 (.s 146) (.s 147)) false false [146, 147] :: cd (some 149) false (some (140, false)) (.mov 3 (.s 148)) false false [148] :: cd (some 150) false (some (140, false)) (.ld true 3 (.s 149)) false false [149] :: cd (some 151) true (some (140, false)) (.bin .neq (.flat [0, 0, 0]) (.s 145) (.s 150)) false false [145, 150] :: cd (some 152) true none (.pick (.s 140) (.c (kb true)) (.s 151)) false false [140, 151] :: []) [0, 2, 4, 7, 8, 9, 10, 11, 12, 13, 14, 152] []) (.ite (.s 152) (.seq (R [cb 6 (.tk (.c (kb false)))] [4, 6, 10, 12]) (.ret)) (.skip))) (.seq (RD (cd (some 153) true none (.mv (.s 14)) false false [14] :: cd (some 154) true none (.mv (.s 153)) false false [153] :: cd (some 155) false (some (154, true)) (.mv (.s 2)) false false [2] :: cd (some 156) false (some (154, true)) (.mv (.s 9)) false false [9] :: cd (some 157) false (some (154, true)) (.ixp 27 (.s 155) (.s 156)) false false [155, 156] :: cd (some 158) false (some (154, true)) (.mov 6 (.s 157)) false false [157] :: cd (some 159) false (some (154, true)) (.ld true 2 (.s 158)) false false [158] :: cd (some 160) false (some (154, true)) (.mov 1 (.s 10)) false false [10] :: cd (some 161) false (some (154, true)) (.ld true 2 (.s 160)) false false [160] :: cd (some 162) true (some (154, true)) (.call none (.c (kf 26)) [(.s 159), (.s 161)]) false false [159, 161] :: cd (some 163) true (some (154, true)) (.mv (.s 162)) false false [162] :: cd (some 164) false (some (163, false)) (.mov 1 (.s 12)) false false [12] :: cd (some 165) false (some (163, false)) (.ld true 2 (.s 164)) false false [164] :: cd (some 166) false (some (163, false)) (.mv (.s 2)) false false [2] :: cd (some 167) false (some (163, false)) (.mv (.s 9)) false false [9] :: cd (some 168) false (some (163, false)) (.ixp 27 (.s 166) (.s 167)) false false [166, 167] :: cd (some 169) false (some (163, false)) (.mov 6 (.s 168)) false false [168] :: cd (some 170) false (some (163, false)) (.ld true 2 (.s 169)) false false [169] :: cd (some 171) true (some (163, false)) (.bin .neq (.flat [0, 0]) (.s 165) (.s 170)) false false [165, 170] :: cd (some 172) true (some (154, true)) (.pick (.s 163) (.c (kb true)) (.s 171)) false false [163, 171] :: cd (some 173) true (some (154, true)) (.mv (.s 172)) false false [172] :: cd (some 174) false (some (173, false)) (.mv (.s 11)) false false [11] :: cd (some 175) false (some (173, false)) (.mv (.s 13)) false false [13] :: cd (some 176) false (some (173, false)) (.ixp 27 (.s 174) (.s 175)) false false [174, 175] :: cd (some 177) false (some (173, false)) (.mov 6 (.s 176)) false false [176] :: cd (some 178) false (some (173, false)) (.ld true 2 (.s 177)) false false [177] :: cd (some 179) false (some (173, false)) (.mv (.s 2)) false false [2] :: cd (some 180) false (some (173, false)) (.mv (.s 9)) false false [9] :: cd (some 181) false (some (173, false)) (.ixp 27 (.s 179) (.s 180)) false false [179, 180] :: cd (some 182) false (some (173, false)) (.mov 6 (.s 181)) false false [181] :: cd (some 183) false (some (173, false)) (.ld true 2 (.s 182)) false false [182] :: cd (some 184) true (some (173, false)) (.bin .neq (.flat [0, 0]) (.s 178) (.s 183)) false false [178, 183] :: cd (some 185) true (some (154, true)) (.pick (.s 173) (.c (kb true)) (.s 184)) false false [173, 184] :: cd (some 186) true none (.pick (.s 154) (.s 185) (.c (kb false))) false false [154, 185] :: []) [0, 2, 4, 7, 8, 9, 10, 11, 12, 13, 186] []) (.ite (.s 186) (.seq (R [cb 6 (.tk (.c (kb false)))] [4, 6, 10, 12]) (.ret)) (.skip)))))) (R [c0 96 (.mv (.s 13)), c0 97 (.bin .add .any (.s 96) (.c (ki .i64 1))), c0 13 (.tk (.s 97))] [0, 2, 4, 7, 8, 9, 10, 11, 12, 13]))))))))))) (R [c0 34 (.mv (.s 9)), c0 35 (.bin .add .any (.s 34) (.c (ki .i64 1))), c0 9 (.tk (.s 35))] [0, 2, 4, 7, 8, 9, 10, 12])))))) (.seq (R [cb 187 (.mv (.s 7)), cb 6 (.tk (.s 187))] [4, 6, 10, 12]) (.ret)))))))
theorem fun4 : Fun Tryz.prog cfg 4 188 cd4 [.s 6] := ⟨rfl, Tryz.f4, _, Tryz.func4, rfl, rfl, by kernel_rfl, by kernel_rfl⟩
@[go_sem] theorem ok4 : calleeOK Tryz.prog 4 = true := by kernel_rfl
@[go_sem] theorem ex4 : (cfg.ext 4).isSome = false := rfl
variable {h : DHeap}
set_option maxHeartbeats 8000000 in
theorem acceptRises_lim (node : Int) (c : Con) (l : List Mes) : lim Tryz.prog cfg 4 [vi node, .agg [vi c.epoch, .list false 1 (vnums c.nodes)], .list false 27 (mess l)] h = some (vb true, h) := by
  refine lim_funp fun4 rfl (by simp) (by simp [heapFree, heapFree.all, free_vnums, free_mess, free_idr, free_pes, free_pss]) rfl ?_
  delta cd4
  have w := works15_lim (h := [])
  have o1 := over15_lim (h := []) false l
  cases d1 : overM l with
  | true => rw [d1] at o1; simp -implicitDefEqProofs -dsimp (maxSteps := 300000) only [go_sem, w, o1]
  | false =>
  rw [d1] at o1
  by_cases d3 : 40 < c.nodes.length
  · have d3' : (40 : Int) < (c.nodes.length : Int) := by omega
    simp -implicitDefEqProofs -dsimp (maxSteps := 300000) only [go_sem, w, o1, d3']
  have d3' : ¬ (40 : Int) < (c.nodes.length : Int) := by omega
  obtain ⟨hl, hl2⟩ := overM_ok d1
  have n1 := newN_lim node c (by omega)
  simp -implicitDefEqProofs -dsimp (maxSteps := 300000) only [go_sem, w, o1, d3', n1]
  have O : ∀ k, k ≤ 40 → BkOK 40 (hearAll ⟨node, c, []⟩ (l.take k)) := fun k hk =>
    (hearAll_ok (bkOK_new node c 0) (l.take k) fun x hx => hl2 x (List.mem_of_mem_take hx)).mono (by rw [List.length_take]; omega)
  have C : ∀ k, (hearAll ⟨node, c, []⟩ (l.take k)).con = c ∧ (hearAll ⟨node, c, []⟩ (l.take k)).node = node := fun k => hearAll_con ⟨node, c, []⟩ (l.take k)
  refine wp_for (σ := Nat × DV × DV) (fun s => [(0, vi node), (2, .list false 27 (mess l)), (4, .box [vi c.epoch, .list false 1 (vnums c.nodes)]), (7, vb true), (8, .ptr 1 0), (9, vi (s.1 : Nat)), (10, s.2.1), (12, s.2.2)]) (fun s => HN (hearAll ⟨node, c, []⟩ (l.take s.1))) (fun s => l.length - s.1) (fun s => s.1 ≤ l.length) (0, .junk, .junk) (Nat.zero_le _) rfl rfl ?_
  rintro ⟨k, y, z⟩ hk N hN
  dsimp only at hk
  by_cases hlt : k < l.length
  case neg =>
    have h1 : ¬ (k : Int) < (l.length : Int) := by omega
    simp -implicitDefEqProofs -dsimp (maxSteps := 300000) only [go_sem, h1]
  have h1 : (k : Int) < (l.length : Int) := by omega
  have q := fun N => mess_at hlt N
  have Ok := O k (by omega)
  have Ok' := O (k + 1) (by omega)
  obtain ⟨x, e⟩ := hearN_lim Ok (by omega) (by rw [(C k).1]; omega) l[k] (hl2 _ (List.getElem_mem hlt))
  have g1 := getN_lim Ok (by omega) l[k].id
  have g2 := getN_lim Ok' (by omega) l[k].id
  have sm := get_small Ok' l[k].id
  have hs : hearAll ⟨node, c, []⟩ (l.take (k + 1)) = (hearB (hearAll ⟨node, c, []⟩ (l.take k)) l[k]).2 := by rw [List.take_succ_eq_append_getElem hlt, hearAll_snoc]
  have R := hear_rises Ok l[k]
  have A := hear_answers Ok l[k]
  have hle := hear_len (hearAll ⟨node, c, []⟩ (l.take k)) l[k]
  rw [(C k).2] at A
  rw [← hs] at e R A
  have hN' := hN
  clear hs O Ok Ok' hl2 C n1 o1 w d1 d3
  have hN2 := fun y z => hN (k + 1, y, z)
  dsimp only at hN2
  clear hN hN'
  generalize hearAll ⟨node, c, []⟩ (l.take (k + 1)) = b2 at *
  generalize hearAll ⟨node, c, []⟩ (l.take k) = b1 at *
  generalize getB b1 l[k].id = was at *
  generalize getB b2 l[k].id = now at *
  generalize (hearB b1 l[k]).1 = ms at *
  obtain ⟨R1, R2, R3⟩ := R
  have t1 := lessB_lim (h := HN b2) now.pro was.pro
  rw [R1] at t1
  by_cases c1 : was.st = 3
  · have c2 := R2 c1
    subst c2
    have ss := same_self (h := HN b2) now (by omega)
    have c3 : ¬ now.st < now.st := by omega
    cases x with
    | true =>
      simp -implicitDefEqProofs -dsimp (maxSteps := 300000) only [go_sem, ↓q, h1, e, g1, g2, t1, ss, eq_true c1, c3]
      refine wp_for (σ := Nat) (fun s => [(0, vi node), (2, .list false 27 (mess l)), (4, .box [vi c.epoch, .list false 1 (vnums c.nodes)]), (7, vb true), (8, .ptr 1 0), (9, vi (k : Nat)), (10, .box (insL now)), (11, .list true 27 (mess ms)), (12, .box (insL now)), (13, vi (s : Nat))]) (fun _ => HN b2) (fun s => ms.length - s) (fun s => s ≤ ms.length) 0 (Nat.zero_le _) rfl rfl ?_
      rintro j hj M hM
      by_cases gl : j < ms.length
      case neg =>
        have f1 : ¬ (j : Int) < (ms.length : Int) := by omega
        simp -implicitDefEqProofs -dsimp (maxSteps := 300000) only [go_sem, f1]
        refine hN2 (.box (insL now)) (.box (insL now)) _ (by omega) (by omega) ?_
        simp -implicitDefEqProofs -dsimp (maxSteps := 300000) only [go_sem, wrap_succ (show k < 9223372036854775807 by omega)]
      have f1 : (j : Int) < (ms.length : Int) := by omega
      have qm := fun N => mess_at gl N
      obtain ⟨a1, a2, a3, a4⟩ := A ms[j] (List.getElem_mem gl)
      by_cases v : ms[j].kind = 1 ∨ ms[j].kind = 3 ∨ ms[j].kind = 6
      · obtain ⟨b1', b2', b3'⟩ := a4 v
        have t2 := lessB_lim (h := HN b2) l[k].bal now.pro
        rw [b1'] at t2
        rcases v with v | v | v
        · simp -implicitDefEqProofs -dsimp (maxSteps := 300000) only [go_sem, wp_RD, postC_path2, Nat.reduceDiv, ↓q, ↓qm, f1, eq_true a1, eq_true a2, eq_true a3, eq_true b2', eq_true b3', t2, eq_true v]
          refine hM (j + 1) _ (by omega) (by omega) ?_
          simp -implicitDefEqProofs -dsimp (maxSteps := 300000) only [go_sem, wrap_succ (show j < 9223372036854775807 by omega)]
        · have v1 : ¬ ms[j].kind = 1 := by omega
          simp -implicitDefEqProofs -dsimp (maxSteps := 300000) only [go_sem, wp_RD, postC_path2, Nat.reduceDiv, ↓q, ↓qm, f1, eq_true a1, eq_true a2, eq_true a3, eq_true b2', eq_true b3', t2, eq_false v1, eq_true v]
          refine hM (j + 1) _ (by omega) (by omega) ?_
          simp -implicitDefEqProofs -dsimp (maxSteps := 300000) only [go_sem, wrap_succ (show j < 9223372036854775807 by omega)]
        · have v1 : ¬ ms[j].kind = 1 := by omega
          have v2 : ¬ ms[j].kind = 3 := by omega
          simp -implicitDefEqProofs -dsimp (maxSteps := 300000) only [go_sem, wp_RD, postC_path2, Nat.reduceDiv, ↓q, ↓qm, f1, eq_true a1, eq_true a2, eq_true a3, eq_true b2', eq_true b3', t2, eq_false v1, eq_false v2, eq_true v]
          refine hM (j + 1) _ (by omega) (by omega) ?_
          simp -implicitDefEqProofs -dsimp (maxSteps := 300000) only [go_sem, wrap_succ (show j < 9223372036854775807 by omega)]
      · have v1 : ¬ ms[j].kind = 1 := fun e => v (.inl e)
        have v2 : ¬ ms[j].kind = 3 := fun e => v (.inr (.inl e))
        have v3 : ¬ ms[j].kind = 6 := fun e => v (.inr (.inr e))
        simp -implicitDefEqProofs -dsimp (maxSteps := 300000) only [go_sem, wp_RD, postC_path2, Nat.reduceDiv, ↓q, ↓qm, f1, eq_true a1, eq_true a2, eq_true a3, eq_false v1, eq_false v2, eq_false v3]
        refine hM (j + 1) _ (by omega) (by omega) ?_
        simp -implicitDefEqProofs -dsimp (maxSteps := 300000) only [go_sem, wrap_succ (show j < 9223372036854775807 by omega)]
    | false =>
      simp -implicitDefEqProofs -dsimp (maxSteps := 300000) only [go_sem, ↓q, h1, e, g1, g2, t1, ss, eq_true c1, c3]
      refine wp_for (σ := Nat) (fun s => [(0, vi node), (2, .list false 27 (mess l)), (4, .box [vi c.epoch, .list false 1 (vnums c.nodes)]), (7, vb true), (8, .ptr 1 0), (9, vi (k : Nat)), (10, .box (insL now)), (11, .list false 27 (mess ms)), (12, .box (insL now)), (13, vi (s : Nat))]) (fun _ => HN b2) (fun s => ms.length - s) (fun s => s ≤ ms.length) 0 (Nat.zero_le _) rfl rfl ?_
      rintro j hj M hM
      by_cases gl : j < ms.length
      case neg =>
        have f1 : ¬ (j : Int) < (ms.length : Int) := by omega
        simp -implicitDefEqProofs -dsimp (maxSteps := 300000) only [go_sem, f1]
        refine hN2 (.box (insL now)) (.box (insL now)) _ (by omega) (by omega) ?_
        simp -implicitDefEqProofs -dsimp (maxSteps := 300000) only [go_sem, wrap_succ (show k < 9223372036854775807 by omega)]
      have f1 : (j : Int) < (ms.length : Int) := by omega
      have qm := fun N => mess_at gl N
      obtain ⟨a1, a2, a3, a4⟩ := A ms[j] (List.getElem_mem gl)
      by_cases v : ms[j].kind = 1 ∨ ms[j].kind = 3 ∨ ms[j].kind = 6
      · obtain ⟨b1', b2', b3'⟩ := a4 v
        have t2 := lessB_lim (h := HN b2) l[k].bal now.pro
        rw [b1'] at t2
        rcases v with v | v | v
        · simp -implicitDefEqProofs -dsimp (maxSteps := 300000) only [go_sem, wp_RD, postC_path2, Nat.reduceDiv, ↓q, ↓qm, f1, eq_true a1, eq_true a2, eq_true a3, eq_true b2', eq_true b3', t2, eq_true v]
          refine hM (j + 1) _ (by omega) (by omega) ?_
          simp -implicitDefEqProofs -dsimp (maxSteps := 300000) only [go_sem, wrap_succ (show j < 9223372036854775807 by omega)]
        · have v1 : ¬ ms[j].kind = 1 := by omega
          simp -implicitDefEqProofs -dsimp (maxSteps := 300000) only [go_sem, wp_RD, postC_path2, Nat.reduceDiv, ↓q, ↓qm, f1, eq_true a1, eq_true a2, eq_true a3, eq_true b2', eq_true b3', t2, eq_false v1, eq_true v]
          refine hM (j + 1) _ (by omega) (by omega) ?_
          simp -implicitDefEqProofs -dsimp (maxSteps := 300000) only [go_sem, wrap_succ (show j < 9223372036854775807 by omega)]
        · have v1 : ¬ ms[j].kind = 1 := by omega
          have v2 : ¬ ms[j].kind = 3 := by omega
          simp -implicitDefEqProofs -dsimp (maxSteps := 300000) only [go_sem, wp_RD, postC_path2, Nat.reduceDiv, ↓q, ↓qm, f1, eq_true a1, eq_true a2, eq_true a3, eq_true b2', eq_true b3', t2, eq_false v1, eq_false v2, eq_true v]
          refine hM (j + 1) _ (by omega) (by omega) ?_
          simp -implicitDefEqProofs -dsimp (maxSteps := 300000) only [go_sem, wrap_succ (show j < 9223372036854775807 by omega)]
      · have v1 : ¬ ms[j].kind = 1 := fun e => v (.inl e)
        have v2 : ¬ ms[j].kind = 3 := fun e => v (.inr (.inl e))
        have v3 : ¬ ms[j].kind = 6 := fun e => v (.inr (.inr e))
        simp -implicitDefEqProofs -dsimp (maxSteps := 300000) only [go_sem, wp_RD, postC_path2, Nat.reduceDiv, ↓q, ↓qm, f1, eq_true a1, eq_true a2, eq_true a3, eq_false v1, eq_false v2, eq_false v3]
        refine hM (j + 1) _ (by omega) (by omega) ?_
        simp -implicitDefEqProofs -dsimp (maxSteps := 300000) only [go_sem, wrap_succ (show j < 9223372036854775807 by omega)]
  by_cases c3 : now.st < was.st
  · have c4 := (R3 c3).2
    cases x with
    | true =>
      simp -implicitDefEqProofs -dsimp (maxSteps := 300000) only [go_sem, ↓q, h1, e, g1, g2, t1, eq_false c1, c3, eq_true c4]
      refine wp_for (σ := Nat) (fun s => [(0, vi node), (2, .list false 27 (mess l)), (4, .box [vi c.epoch, .list false 1 (vnums c.nodes)]), (7, vb true), (8, .ptr 1 0), (9, vi (k : Nat)), (10, .box (insL was)), (11, .list true 27 (mess ms)), (12, .box (insL now)), (13, vi (s : Nat))]) (fun _ => HN b2) (fun s => ms.length - s) (fun s => s ≤ ms.length) 0 (Nat.zero_le _) rfl rfl ?_
      rintro j hj M hM
      by_cases gl : j < ms.length
      case neg =>
        have f1 : ¬ (j : Int) < (ms.length : Int) := by omega
        simp -implicitDefEqProofs -dsimp (maxSteps := 300000) only [go_sem, f1]
        refine hN2 (.box (insL was)) (.box (insL now)) _ (by omega) (by omega) ?_
        simp -implicitDefEqProofs -dsimp (maxSteps := 300000) only [go_sem, wrap_succ (show k < 9223372036854775807 by omega)]
      have f1 : (j : Int) < (ms.length : Int) := by omega
      have qm := fun N => mess_at gl N
      obtain ⟨a1, a2, a3, a4⟩ := A ms[j] (List.getElem_mem gl)
      by_cases v : ms[j].kind = 1 ∨ ms[j].kind = 3 ∨ ms[j].kind = 6
      · obtain ⟨b1', b2', b3'⟩ := a4 v
        have t2 := lessB_lim (h := HN b2) l[k].bal was.pro
        rw [b1'] at t2
        rcases v with v | v | v
        · simp -implicitDefEqProofs -dsimp (maxSteps := 300000) only [go_sem, wp_RD, postC_path2, Nat.reduceDiv, ↓q, ↓qm, f1, eq_true a1, eq_true a2, eq_true a3, eq_true b2', eq_true b3', t2, eq_true v]
          refine hM (j + 1) _ (by omega) (by omega) ?_
          simp -implicitDefEqProofs -dsimp (maxSteps := 300000) only [go_sem, wrap_succ (show j < 9223372036854775807 by omega)]
        · have v1 : ¬ ms[j].kind = 1 := by omega
          simp -implicitDefEqProofs -dsimp (maxSteps := 300000) only [go_sem, wp_RD, postC_path2, Nat.reduceDiv, ↓q, ↓qm, f1, eq_true a1, eq_true a2, eq_true a3, eq_true b2', eq_true b3', t2, eq_false v1, eq_true v]
          refine hM (j + 1) _ (by omega) (by omega) ?_
          simp -implicitDefEqProofs -dsimp (maxSteps := 300000) only [go_sem, wrap_succ (show j < 9223372036854775807 by omega)]
        · have v1 : ¬ ms[j].kind = 1 := by omega
          have v2 : ¬ ms[j].kind = 3 := by omega
          simp -implicitDefEqProofs -dsimp (maxSteps := 300000) only [go_sem, wp_RD, postC_path2, Nat.reduceDiv, ↓q, ↓qm, f1, eq_true a1, eq_true a2, eq_true a3, eq_true b2', eq_true b3', t2, eq_false v1, eq_false v2, eq_true v]
          refine hM (j + 1) _ (by omega) (by omega) ?_
          simp -implicitDefEqProofs -dsimp (maxSteps := 300000) only [go_sem, wrap_succ (show j < 9223372036854775807 by omega)]
      · have v1 : ¬ ms[j].kind = 1 := fun e => v (.inl e)
        have v2 : ¬ ms[j].kind = 3 := fun e => v (.inr (.inl e))
        have v3 : ¬ ms[j].kind = 6 := fun e => v (.inr (.inr e))
        simp -implicitDefEqProofs -dsimp (maxSteps := 300000) only [go_sem, wp_RD, postC_path2, Nat.reduceDiv, ↓q, ↓qm, f1, eq_true a1, eq_true a2, eq_true a3, eq_false v1, eq_false v2, eq_false v3]
        refine hM (j + 1) _ (by omega) (by omega) ?_
        simp -implicitDefEqProofs -dsimp (maxSteps := 300000) only [go_sem, wrap_succ (show j < 9223372036854775807 by omega)]
    | false =>
      simp -implicitDefEqProofs -dsimp (maxSteps := 300000) only [go_sem, ↓q, h1, e, g1, g2, t1, eq_false c1, c3, eq_true c4]
      refine wp_for (σ := Nat) (fun s => [(0, vi node), (2, .list false 27 (mess l)), (4, .box [vi c.epoch, .list false 1 (vnums c.nodes)]), (7, vb true), (8, .ptr 1 0), (9, vi (k : Nat)), (10, .box (insL was)), (11, .list false 27 (mess ms)), (12, .box (insL now)), (13, vi (s : Nat))]) (fun _ => HN b2) (fun s => ms.length - s) (fun s => s ≤ ms.length) 0 (Nat.zero_le _) rfl rfl ?_
      rintro j hj M hM
      by_cases gl : j < ms.length
      case neg =>
        have f1 : ¬ (j : Int) < (ms.length : Int) := by omega
        simp -implicitDefEqProofs -dsimp (maxSteps := 300000) only [go_sem, f1]
        refine hN2 (.box (insL was)) (.box (insL now)) _ (by omega) (by omega) ?_
        simp -implicitDefEqProofs -dsimp (maxSteps := 300000) only [go_sem, wrap_succ (show k < 9223372036854775807 by omega)]
      have f1 : (j : Int) < (ms.length : Int) := by omega
      have qm := fun N => mess_at gl N
      obtain ⟨a1, a2, a3, a4⟩ := A ms[j] (List.getElem_mem gl)
      by_cases v : ms[j].kind = 1 ∨ ms[j].kind = 3 ∨ ms[j].kind = 6
      · obtain ⟨b1', b2', b3'⟩ := a4 v
        have t2 := lessB_lim (h := HN b2) l[k].bal was.pro
        rw [b1'] at t2
        rcases v with v | v | v
        · simp -implicitDefEqProofs -dsimp (maxSteps := 300000) only [go_sem, wp_RD, postC_path2, Nat.reduceDiv, ↓q, ↓qm, f1, eq_true a1, eq_true a2, eq_true a3, eq_true b2', eq_true b3', t2, eq_true v]
          refine hM (j + 1) _ (by omega) (by omega) ?_
          simp -implicitDefEqProofs -dsimp (maxSteps := 300000) only [go_sem, wrap_succ (show j < 9223372036854775807 by omega)]
        · have v1 : ¬ ms[j].kind = 1 := by omega
          simp -implicitDefEqProofs -dsimp (maxSteps := 300000) only [go_sem, wp_RD, postC_path2, Nat.reduceDiv, ↓q, ↓qm, f1, eq_true a1, eq_true a2, eq_true a3, eq_true b2', eq_true b3', t2, eq_false v1, eq_true v]
          refine hM (j + 1) _ (by omega) (by omega) ?_
          simp -implicitDefEqProofs -dsimp (maxSteps := 300000) only [go_sem, wrap_succ (show j < 9223372036854775807 by omega)]
        · have v1 : ¬ ms[j].kind = 1 := by omega
          have v2 : ¬ ms[j].kind = 3 := by omega
          simp -implicitDefEqProofs -dsimp (maxSteps := 300000) only [go_sem, wp_RD, postC_path2, Nat.reduceDiv, ↓q, ↓qm, f1, eq_true a1, eq_true a2, eq_true a3, eq_true b2', eq_true b3', t2, eq_false v1, eq_false v2, eq_true v]
          refine hM (j + 1) _ (by omega) (by omega) ?_
          simp -implicitDefEqProofs -dsimp (maxSteps := 300000) only [go_sem, wrap_succ (show j < 9223372036854775807 by omega)]
      · have v1 : ¬ ms[j].kind = 1 := fun e => v (.inl e)
        have v2 : ¬ ms[j].kind = 3 := fun e => v (.inr (.inl e))
        have v3 : ¬ ms[j].kind = 6 := fun e => v (.inr (.inr e))
        simp -implicitDefEqProofs -dsimp (maxSteps := 300000) only [go_sem, wp_RD, postC_path2, Nat.reduceDiv, ↓q, ↓qm, f1, eq_true a1, eq_true a2, eq_true a3, eq_false v1, eq_false v2, eq_false v3]
        refine hM (j + 1) _ (by omega) (by omega) ?_
        simp -implicitDefEqProofs -dsimp (maxSteps := 300000) only [go_sem, wrap_succ (show j < 9223372036854775807 by omega)]
  cases x with
  | true =>
    simp -implicitDefEqProofs -dsimp (maxSteps := 300000) only [go_sem, ↓q, h1, e, g1, g2, t1, eq_false c1, c3]
    refine wp_for (σ := Nat) (fun s => [(0, vi node), (2, .list false 27 (mess l)), (4, .box [vi c.epoch, .list false 1 (vnums c.nodes)]), (7, vb true), (8, .ptr 1 0), (9, vi (k : Nat)), (10, .box (insL was)), (11, .list true 27 (mess ms)), (12, .box (insL now)), (13, vi (s : Nat))]) (fun _ => HN b2) (fun s => ms.length - s) (fun s => s ≤ ms.length) 0 (Nat.zero_le _) rfl rfl ?_
    rintro j hj M hM
    by_cases gl : j < ms.length
    case neg =>
      have f1 : ¬ (j : Int) < (ms.length : Int) := by omega
      simp -implicitDefEqProofs -dsimp (maxSteps := 300000) only [go_sem, f1]
      refine hN2 (.box (insL was)) (.box (insL now)) _ (by omega) (by omega) ?_
      simp -implicitDefEqProofs -dsimp (maxSteps := 300000) only [go_sem, wrap_succ (show k < 9223372036854775807 by omega)]
    have f1 : (j : Int) < (ms.length : Int) := by omega
    have qm := fun N => mess_at gl N
    obtain ⟨a1, a2, a3, a4⟩ := A ms[j] (List.getElem_mem gl)
    by_cases v : ms[j].kind = 1 ∨ ms[j].kind = 3 ∨ ms[j].kind = 6
    · obtain ⟨b1', b2', b3'⟩ := a4 v
      have t2 := lessB_lim (h := HN b2) l[k].bal was.pro
      rw [b1'] at t2
      rcases v with v | v | v
      · simp -implicitDefEqProofs -dsimp (maxSteps := 300000) only [go_sem, wp_RD, postC_path2, Nat.reduceDiv, ↓q, ↓qm, f1, eq_true a1, eq_true a2, eq_true a3, eq_true b2', eq_true b3', t2, eq_true v]
        refine hM (j + 1) _ (by omega) (by omega) ?_
        simp -implicitDefEqProofs -dsimp (maxSteps := 300000) only [go_sem, wrap_succ (show j < 9223372036854775807 by omega)]
      · have v1 : ¬ ms[j].kind = 1 := by omega
        simp -implicitDefEqProofs -dsimp (maxSteps := 300000) only [go_sem, wp_RD, postC_path2, Nat.reduceDiv, ↓q, ↓qm, f1, eq_true a1, eq_true a2, eq_true a3, eq_true b2', eq_true b3', t2, eq_false v1, eq_true v]
        refine hM (j + 1) _ (by omega) (by omega) ?_
        simp -implicitDefEqProofs -dsimp (maxSteps := 300000) only [go_sem, wrap_succ (show j < 9223372036854775807 by omega)]
      · have v1 : ¬ ms[j].kind = 1 := by omega
        have v2 : ¬ ms[j].kind = 3 := by omega
        simp -implicitDefEqProofs -dsimp (maxSteps := 300000) only [go_sem, wp_RD, postC_path2, Nat.reduceDiv, ↓q, ↓qm, f1, eq_true a1, eq_true a2, eq_true a3, eq_true b2', eq_true b3', t2, eq_false v1, eq_false v2, eq_true v]
        refine hM (j + 1) _ (by omega) (by omega) ?_
        simp -implicitDefEqProofs -dsimp (maxSteps := 300000) only [go_sem, wrap_succ (show j < 9223372036854775807 by omega)]
    · have v1 : ¬ ms[j].kind = 1 := fun e => v (.inl e)
      have v2 : ¬ ms[j].kind = 3 := fun e => v (.inr (.inl e))
      have v3 : ¬ ms[j].kind = 6 := fun e => v (.inr (.inr e))
      simp -implicitDefEqProofs -dsimp (maxSteps := 300000) only [go_sem, wp_RD, postC_path2, Nat.reduceDiv, ↓q, ↓qm, f1, eq_true a1, eq_true a2, eq_true a3, eq_false v1, eq_false v2, eq_false v3]
      refine hM (j + 1) _ (by omega) (by omega) ?_
      simp -implicitDefEqProofs -dsimp (maxSteps := 300000) only [go_sem, wrap_succ (show j < 9223372036854775807 by omega)]
  | false =>
    simp -implicitDefEqProofs -dsimp (maxSteps := 300000) only [go_sem, ↓q, h1, e, g1, g2, t1, eq_false c1, c3]
    refine wp_for (σ := Nat) (fun s => [(0, vi node), (2, .list false 27 (mess l)), (4, .box [vi c.epoch, .list false 1 (vnums c.nodes)]), (7, vb true), (8, .ptr 1 0), (9, vi (k : Nat)), (10, .box (insL was)), (11, .list false 27 (mess ms)), (12, .box (insL now)), (13, vi (s : Nat))]) (fun _ => HN b2) (fun s => ms.length - s) (fun s => s ≤ ms.length) 0 (Nat.zero_le _) rfl rfl ?_
    rintro j hj M hM
    by_cases gl : j < ms.length
    case neg =>
      have f1 : ¬ (j : Int) < (ms.length : Int) := by omega
      simp -implicitDefEqProofs -dsimp (maxSteps := 300000) only [go_sem, f1]
      refine hN2 (.box (insL was)) (.box (insL now)) _ (by omega) (by omega) ?_
      simp -implicitDefEqProofs -dsimp (maxSteps := 300000) only [go_sem, wrap_succ (show k < 9223372036854775807 by omega)]
    have f1 : (j : Int) < (ms.length : Int) := by omega
    have qm := fun N => mess_at gl N
    obtain ⟨a1, a2, a3, a4⟩ := A ms[j] (List.getElem_mem gl)
    by_cases v : ms[j].kind = 1 ∨ ms[j].kind = 3 ∨ ms[j].kind = 6
    · obtain ⟨b1', b2', b3'⟩ := a4 v
      have t2 := lessB_lim (h := HN b2) l[k].bal was.pro
      rw [b1'] at t2
      rcases v with v | v | v
      · simp -implicitDefEqProofs -dsimp (maxSteps := 300000) only [go_sem, wp_RD, postC_path2, Nat.reduceDiv, ↓q, ↓qm, f1, eq_true a1, eq_true a2, eq_true a3, eq_true b2', eq_true b3', t2, eq_true v]
        refine hM (j + 1) _ (by omega) (by omega) ?_
        simp -implicitDefEqProofs -dsimp (maxSteps := 300000) only [go_sem, wrap_succ (show j < 9223372036854775807 by omega)]
      · have v1 : ¬ ms[j].kind = 1 := by omega
        simp -implicitDefEqProofs -dsimp (maxSteps := 300000) only [go_sem, wp_RD, postC_path2, Nat.reduceDiv, ↓q, ↓qm, f1, eq_true a1, eq_true a2, eq_true a3, eq_true b2', eq_true b3', t2, eq_false v1, eq_true v]
        refine hM (j + 1) _ (by omega) (by omega) ?_
        simp -implicitDefEqProofs -dsimp (maxSteps := 300000) only [go_sem, wrap_succ (show j < 9223372036854775807 by omega)]
      · have v1 : ¬ ms[j].kind = 1 := by omega
        have v2 : ¬ ms[j].kind = 3 := by omega
        simp -implicitDefEqProofs -dsimp (maxSteps := 300000) only [go_sem, wp_RD, postC_path2, Nat.reduceDiv, ↓q, ↓qm, f1, eq_true a1, eq_true a2, eq_true a3, eq_true b2', eq_true b3', t2, eq_false v1, eq_false v2, eq_true v]
        refine hM (j + 1) _ (by omega) (by omega) ?_
        simp -implicitDefEqProofs -dsimp (maxSteps := 300000) only [go_sem, wrap_succ (show j < 9223372036854775807 by omega)]
    · have v1 : ¬ ms[j].kind = 1 := fun e => v (.inl e)
      have v2 : ¬ ms[j].kind = 3 := fun e => v (.inr (.inl e))
      have v3 : ¬ ms[j].kind = 6 := fun e => v (.inr (.inr e))
      simp -implicitDefEqProofs -dsimp (maxSteps := 300000) only [go_sem, wp_RD, postC_path2, Nat.reduceDiv, ↓q, ↓qm, f1, eq_true a1, eq_true a2, eq_true a3, eq_false v1, eq_false v2, eq_false v3]
      refine hM (j + 1) _ (by omega) (by omega) ?_
      simp -implicitDefEqProofs -dsimp (maxSteps := 300000) only [go_sem, wrap_succ (show j < 9223372036854775807 by omega)]
end Go.DS

/-
  The row AcceptRises.
-/
namespace Go.Proofs.YtfmhhincdemhdaaGreat.acceptRises
open Go.ChangeShapes Go.WideShapes Go.ChangeAt Go.RowKit
open Go.ChangeMaps (open_string shut_string)
open Go.DS
set_option linter.unusedVariables false
set_option linter.unusedSimpArgs false

set_option maxRecDepth 100000 in
theorem contract (H : Type) (enc : TypeId × Value → H) (W : World) (base : Nat) (args : Array Value) (ds gs : List (DataW H)) (before : List MemPlace)
    (hval0 : ∀ (j : Nat) t v, Tryz.f4.params[j]? = some t → args[j]? = some v → Value.okWide Tryz.prog W .any base t v)
    (hW : DataW.Whole enc Tryz.prog Tryz.f4.params.toList Rows.acceptRisesSpec.vars false W args.toList ds gs before) (hk : Rows.uptoSmall H (ds ++ gs) = true) :
    Calls Tryz.prog 4 args W fun e W' => ∃ v, e = .returned v ∧ Rows.acceptRisesSpec.post enc Tryz.prog Tryz.f4 false true false false W args v W' := by
  have hval : ∀ (j : Nat) t v, Tryz.f4.params[j]? = some t → args[j]? = some v → Value.okWide Tryz.prog W .any base t v := hval0
  have hW' := hW
  obtain ⟨p, q, hA0, hV, rfl, hfz, hnd⟩ := hW
  have hA : DataW.TrodAll enc Tryz.prog W 0 (fun _ => true) true Tryz.f4.params.toList args.toList ds p := hA0
  rw [Tryz.params4] at hA hval
  obtain ⟨v0, vs0, d0, ds0, p0, q0, hargs, rfl, rfl, h0, r0⟩ := trodAll_cons hA
  obtain ⟨v1, vs1, d1, ds1, p1, q1, rfl, rfl, rfl, h1, r1⟩ := trodAll_cons r0
  obtain ⟨v2, vs2, d2, ds2, p2, q2, rfl, rfl, rfl, h2, r2⟩ := trodAll_cons r1
  obtain ⟨rfl, rfl, rfl⟩ := trodAll_nil r2
  obtain rfl : args = #[v0, v1, v2] := by cases args; simp_all
  obtain ⟨rfl, rfl⟩ := trodVars_none hV
  have lt0 : ∀ x ∈ p0, x.block < W.heap.size := by obtain ⟨m, hm⟩ := h0; exact DataW.trod_lt m _ _ _ hm
  have k0 := h0
  obtain ⟨a0, rfl, rfl, rfl, y0⟩ := open_int Tryz.underlying3 (hval 0 3 v0 rfl rfl) h0
  have lt1 : ∀ x ∈ p1, x.block < W.heap.size := by obtain ⟨m, hm⟩ := h1; exact DataW.trod_lt m _ _ _ hm
  have k1 := h1
  obtain ⟨a1, y1, b1⟩ := arg_con (B := 1048575) (hval 1 24 v1 rfl rfl) h1 (by have hb := of_decide_eq_true hk; simp only [Rows.uptoBulkAll, List.append_nil, List.cons_append, List.nil_append] at hb; omega)
  have lt2 : ∀ x ∈ p2, x.block < W.heap.size := by obtain ⟨m, hm⟩ := h2; exact DataW.trod_lt m _ _ _ hm
  have k2 := h2
  obtain ⟨a2, y2, b2⟩ := arg_mess (B := 1048575) (hval 2 25 v2 rfl rfl) h2 (by have hb := of_decide_eq_true hk; simp only [Rows.uptoBulkAll, List.append_nil, List.cons_append, List.nil_append] at hb; omega)
  clear hA0 hval0
  have hb := of_decide_eq_true hk
  simp only [Rows.uptoBulkAll, Rows.uptoBulk, List.append_nil] at hb
  refine (Go.DS.start ext_ok (acceptRises_lim a0 a1 a2) W (vs := #[.int .i64 a0, v1, v2]) (.cons (.sc _) (.cons (y1) (.cons (y2) (.nil _))))).mono fun e W' ⟨he, bel⟩ => ?_
  subst he
  exact ⟨_, rfl, _, _, _, [], _, [], hW', trodAll_mk1 (shut_bool Tryz.underlying4 _), (trodAll_cons_mk (Below.trod laidOut' (by kernel_rfl) (of_decide_eq_true (by kernel_rfl)) k0 bel lt0) (trodAll_cons_mk (Below.trod laidOut' (by kernel_rfl) (of_decide_eq_true (by kernel_rfl)) k1 bel lt1) (trodAll_cons_mk (Below.trod laidOut' (by kernel_rfl) (of_decide_eq_true (by kernel_rfl)) k2 bel lt2) trodAll_mk0))), rfl, bel.frame _, fun h => by cases h⟩

set_option maxRecDepth 100000 in
theorem lifted (os : Os) (started : os.Started) (H : Type) (enc : TypeId × Value → H) (F : Stop.Interp) :
    ReturnsInHanded {} Tryz.checked os 4 .any ((Rows.OpenSpec.upto Rows.acceptRisesSpec).pre6 enc Tryz.prog Tryz.f4 Rows.acceptRisesUptoRow.domain false) (((Rows.OpenSpec.upto Rows.acceptRisesSpec).at F).post enc Tryz.prog Tryz.f4 false true false false) := by
  refine returnsInHanded_of_cond (C := Tryz.checked) (s := Rows.OpenSpec.upto Rows.acceptRisesSpec) (k := Rows.uptoSmall) rfl own' started (by kernel_rfl) Tryz.func4
    (OpenSpec.witness (enc := enc) (C := Tryz.checked) (s := Rows.OpenSpec.upto Rows.acceptRisesSpec) (k := Rows.uptoSmall) rfl false ⟨#[], #[.int .i64 0, .agg #[.int .i64 0, .slice none 0 0], .slice none 0 0], []⟩ 8 (by kernel_rfl) (by kernel_rfl) (by kernel_rfl)
      (x := ([.lit (.int .i64 0), .agg [.lit (.int .i64 0), .nil], .nil], [], [])) (by kernel_rfl) rfl (by kernel_rfl)) ?_
  intro W base args ds gs before hval hW _ hk _
  exact contract H enc W base args ds gs before hval hW hk

theorem over : Rows.acceptRisesUptoRow.holds Tryz.pinned (Rows.OpenSpec.upto Rows.acceptRisesSpec) :=
  OpenClaim.holds_of_cond 4 Tryz.f4 rfl rfl rfl rfl rfl rfl rfl ⟨rfl, rfl, rfl, rfl, rfl⟩ rfl rfl rfl rfl rfl (by kernel_rfl) Tryz.func4 (by kernel_rfl)
    (of_decide_eq_true (by kernel_rfl)) (by unfold Func.isWrapper; first | (rw [if_pos (by decide +kernel)]; kernel_rfl) | (rw [if_neg (by decide +kernel)]; exact ⟨rfl, rfl⟩))
    (fun os started H enc _ F => lifted os started H enc F)

theorem proved : Rows.AcceptRisesUptoSaid := over
#print axioms proved
end Go.Proofs.YtfmhhincdemhdaaGreat.acceptRises
namespace Go.Proofs.YtfmhhincdemhdaaGreat
theorem acceptRises_holds : Rows.AcceptRisesUptoSaid := acceptRises.proved
end Go.Proofs.YtfmhhincdemhdaaGreat
