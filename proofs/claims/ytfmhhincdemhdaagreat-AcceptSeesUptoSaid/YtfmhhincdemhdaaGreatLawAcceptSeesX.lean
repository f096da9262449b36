/-
  Walks: the law AcceptSees.
-/
import Derived.Test.YtfmhhincdemhdaaGreatH9
import Derived.WalkKit
import Derived.ProofKit
import Derived.OpenShut
import Derived.ShutString
import Derived.ChangeOld
import Derived.Below
import Derived.JoinedCond
import Derived.Carry
set_option linter.unusedSimpArgs false
set_option linter.unusedVariables false
namespace Go.DS
open Go Go.Proofs
set_option maxRecDepth 100000
set_option linter.unusedVariables false
set_option linter.unusedSimpArgs false
def cd10 : Cd := .seq (R [c0 3 (.new false (.s 0)), c0 5 (.new false (.s 2)), cb 6 (.mv (.c (kb false)))] [1, 3, 5, 12, 14, 17]) (.seq (R [cb 18 (.call none (.c (kf 11)) []), cb 7 (.tk (.s 18))] [1, 3, 5, 7, 12, 14, 17]) (.seq (.seq (R [cb 19 (.mv (.s 7)), cb 20 (.un .not (.s 19))] [1, 3, 5, 7, 12, 14, 17, 20]) (.ite (.s 20) (.seq (R [cb 6 (.mv (.c (kb false)))] [3, 5, 6, 12, 14, 17]) (.ret)) (.skip))) (.seq (.seq (R [c0 21 (.mv (.s 1)), cb 22 (.call none (.c (kf 12)) [(.s 21)]), cb 23 (.mv (.s 22)), cg 24 23 false (.ld true 27 (.s 5)), cg 25 23 false (.bsl 27 [(.s 24)]), ch 26 23 false (.call none (.c (kf 12)) [(.s 25)]), cb 27 (.pick (.s 23) (.c (kb true)) (.s 26)), cb 28 (.mv (.s 27)), cg 29 28 false (.mov 1 (.s 3)), cg 30 28 false (.ld false 3 (.s 29)), cg 31 28 false (.len 1 (.s 30)), ch 32 28 false (.bin .gtr .any (.s 31) (.c (ki .i64 40))), cb 33 (.pick (.s 28) (.c (kb true)) (.s 32)), cb 34 (.mv (.s 33)), cg 35 34 false (.mov 1 (.s 3)), cg 36 34 false (.ld false 3 (.s 35)), cg 37 34 false (.len 1 (.s 36)), ch 38 34 false (.bin .eql .any (.s 37) (.c (ki .i64 0))), cb 39 (.pick (.s 34) (.c (kb true)) (.s 38))] [1, 3, 5, 7, 12, 14, 17, 39]) (.ite (.s 39) (.seq (R [cb 40 (.mv (.s 7)), cb 6 (.mv (.s 40))] [3, 5, 6, 12, 14, 17]) (.ret)) (.skip))) (.seq (R [c0 41 (.mov 1 (.s 3)), c0 42 (.ld false 3 (.s 41)), c0 43 (.ixp 1 (.s 42) (.c (ki .i64 0))), c0 44 (.ld false 1 (.s 43)), c0 8 (.tk (.s 44))] [1, 3, 5, 7, 8, 12, 14, 17]) (.seq (R [c0 45 (.mv (.s 8)), c0 46 (.ld true 2 (.s 3)), c0 47 (.call none (.c (kf 13)) [(.s 45), (.s 46)]), c0 9 (.tk (.s 47))] [1, 3, 5, 7, 9, 12, 14, 17]) (.seq (.seq (R [c0 10 (.tk (.c (ki .i64 0)))] [1, 3, 5, 7, 9, 10, 12, 14, 17]) (.block 0 (LP [1, 3, 5, 7, 9, 10, 12, 14, 17] (.seq (.seq (R [c0 48 (.mv (.s 10)), c0 49 (.mv (.s 1)), c0 50 (.len 1 (.s 49)), cb 51 (.bin .lss .any (.s 48) (.s 50))] [1, 3, 5, 7, 9, 10, 12, 14, 17, 51]) (.ite (.s 51) (.skip) (.exit 0))) (.seq (.block 1 (R [c0 54 (.mv (.s 9)), c0 55 (.mv (.s 1)), c0 56 (.mv (.s 10)), c0 57 (.ixp 27 (.s 55) (.s 56)), c0 58 (.ld true 27 (.s 57)), c0 59 (.call none (.c (kf 16)) [(.s 54), (.s 58)])] [1, 3, 5, 7, 9, 10, 12, 14, 17])) (R [c0 52 (.mv (.s 10)), c0 53 (.bin .add .any (.s 52) (.c (ki .i64 1))), c0 10 (.tk (.s 53))] [1, 3, 5, 7, 9, 10, 12, 14, 17])))))) (.seq (R [c0 60 (.mv (.s 9)), c0 61 (.call none (.c (kf 23)) [(.s 60)]), c0 11 (.tk (.s 61))] [3, 5, 7, 9, 11, 12, 14, 17]) (.seq (R [c0 62 (.mv (.s 9)), c0 63 (.mov 3 (.s 5)), c0 64 (.ld true 3 (.s 63)), c0 65 (.call none (.c (kf 20)) [(.s 62), (.s 64)]), c0 12 (.new false (.c (.agg [ki .i64 0, ki .i64 0, ki .i64 0, ki .i64 0, ki .i64 0, ki .i64 0, ki .i64 0, ki .i64 0, ks [], ks [], ki .i64 0, ki .i64 0, ki .i64 0, ki .i64 0, kn 3]))), cn (.st 15 (.s 12) (.s 65))] [3, 5, 7, 9, 11, 12, 14, 17]) (.seq (R [c0 66 (.mov 0 (.s 5)), cn (.st 1 (.s 66) (.c (ki .i64 0)))] [3, 5, 7, 9, 11, 12, 14, 17]) (.seq (R [c0 67 (.mv (.s 9)), c0 68 (.ld true 27 (.s 5)), c0 69 (.call none (.c (kf 16)) [(.s 67), (.s 68)]), c0 13 (.tk (.s 69))] [3, 5, 7, 11, 12, 13, 14, 17]) (.seq (.seq (R (c0 70 (.mv (.s 13)) :: c0 71 (.len 1 (.s 70)) :: cb 72 (.bin .eql .any (.s 71) (.c (ki .i64 0))) :: cb 73 (.mv (.s 72)) :: cg 74 73 false (.mv (.s 13)) :: cg 75 73 false (.ixp 27 (.s 74) (.c (ki .i64 0))) :: cg 76 73 false (.mov 0 (.s 75)) :: cg 77 73 false (.ld false 1 (.s 76)) :: ch 78 73 false (.bin .neq .any (.s 77) (.c (ki .i64 1))) :: cb 79 (.pick (.s 73) (.c (kb true)) (.s 78)) :: cb 80 (.mv (.s 79)) :: cg 81 80 false (.mov 0 (.s 12)) :: cg 82 80 false (.ld false 1 (.s 81)) :: ch 83 80 false (.bin .geq .any (.s 82) (.c (ki .i64 1))) :: ch 84 80 false (.mv (.s 83)) :: cg 85 84 true (.mov 3 (.s 12)) :: cg 86 84 true (.ld true 2 (.s 85)) :: cg 87 84 true (.mov 6 (.s 5)) :: cg 88 84 true (.ld true 2 (.s 87)) :: ch 89 84 true (.bin .eql (.flat [0, 0]) (.s 86) (.s 88)) :: ch 90 80 false (.pick (.s 84) (.s 89) (.c (kb false))) :: cb 91 (.pick (.s 80) (.c (kb true)) (.s 90)) :: []) [3, 5, 7, 11, 12, 13, 14, 17, 91]) (.ite (.s 91) (.seq (R [cb 92 (.mv (.s 7)), cb 6 (.mv (.s 92))] [3, 5, 6, 12, 14, 17]) (.ret)) (.skip))) (.seq (R [c0 93 (.mv (.s 13)), c0 94 (.ixp 27 (.s 93) (.c (ki .i64 0))), c0 95 (.mov 8 (.s 94)), c0 96 (.mov 13 (.s 95)), c0 97 (.ld true 2 (.s 96)), c0 14 (.new false (.c (.agg [ki .i64 0, kn 3]))), cn (.st 2 (.s 14) (.s 97))] [3, 5, 7, 11, 12, 13, 14, 17]) (.seq (.seq (R [c0 15 (.tk (.c (ki .i64 0)))] [3, 5, 7, 11, 12, 13, 14, 15, 17]) (.block 2 (LP [3, 5, 7, 11, 12, 13, 14, 15, 17] (.seq (.seq (R [c0 98 (.mv (.s 15)), c0 99 (.mov 8 (.s 5)), c0 100 (.mov 13 (.s 99)), c0 101 (.mov 1 (.s 100)), c0 102 (.ld false 5 (.s 101)), c0 103 (.len 1 (.s 102)), cb 104 (.bin .lss .any (.s 98) (.s 103))] [3, 5, 7, 11, 12, 13, 14, 15, 17, 104]) (.ite (.s 104) (.skip) (.exit 2))) (.seq (.block 3 (.seq (RD [cd (some 107) false none (.mov 1 (.s 14)) false false [14], cd (some 108) false none (.ld false 5 (.s 107)) false false [107], cd (some 109) false none (.mov 8 (.s 5)) false false [5], cd (some 110) false none (.mov 13 (.s 109)) false false [109], cd (some 111) false none (.mov 1 (.s 110)) false false [110], cd (some 112) false none (.ld false 5 (.s 111)) false false [111], cd (some 113) false none (.mv (.s 15)) false false [15], cd (some 114) false none (.ixp 3 (.s 112) (.s 113)) false false [112, 113], cd (some 115) false none (.ld true 3 (.s 114)) false false [114], cd (some 116) true none (.call none (.c (kf 29)) [(.s 108), (.s 115)]) false false [108, 115], cd (some 117) true none (.un .not (.s 116)) false false [116]] [3, 5, 7, 11, 12, 13, 14, 15, 17, 117] []) (.ite (.s 117) (.seq (R [cb 6 (.mv (.c (kb false)))] [3, 5, 6, 12, 14, 17]) (.ret)) (.skip)))) (R [c0 105 (.mv (.s 15)), c0 106 (.bin .add .any (.s 105) (.c (ki .i64 1))), c0 15 (.tk (.s 106))] [3, 5, 7, 11, 12, 13, 14, 15, 17])))))) (.seq (.seq (R [c0 16 (.tk (.c (ki .i64 0)))] [3, 5, 7, 11, 12, 13, 14, 16, 17]) (.block 4 (LP [3, 5, 7, 11, 12, 13, 14, 16, 17] (.seq (.seq (R [c0 118 (.mv (.s 16)), c0 119 (.mv (.s 11)), c0 120 (.len 1 (.s 119)), cb 121 (.bin .lss .any (.s 118) (.s 120))] [3, 5, 7, 11, 12, 13, 14, 16, 17, 121]) (.ite (.s 121) (.skip) (.exit 4))) (.seq (.block 5 (.seq (R [c0 124 (.mv (.s 11)), c0 125 (.mv (.s 16)), c0 126 (.ixp 13 (.s 124) (.s 125)), c0 127 (.ld true 13 (.s 126)), c0 17 (.new false (.c (.agg [ki .i64 0, ki .i64 0, ki .i64 0, ki .i64 0, ki .i64 0, ki .i64 0, ks [], ks [], ki .i64 0, ki .i64 0, ki .i64 0, ki .i64 0, kn 3]))), cn (.st 13 (.s 17) (.s 127))] [3, 5, 7, 11, 12, 13, 14, 16, 17]) (.seq (.seq (R [c0 128 (.mov 0 (.s 17)), c0 129 (.ld true 3 (.s 128)), c0 130 (.mov 3 (.s 5)), c0 131 (.ld true 3 (.s 130)), cb 132 (.bin .eql (.flat [0, 0, 0]) (.s 129) (.s 131)), cb 133 (.mv (.s 132)), cg 134 133 false (.mov 3 (.s 17)), cg 135 133 false (.ld true 8 (.s 134)), cg 136 133 false (.mov 8 (.s 5)), cg 137 133 false (.mov 5 (.s 136)), cg 138 133 false (.ld true 8 (.s 137)), ch 139 133 false (.call none (.c (kf 30)) [(.s 135), (.s 138)]), ch 140 133 false (.un .not (.s 139)), cb 141 (.pick (.s 133) (.c (kb true)) (.s 140))] [3, 5, 7, 11, 12, 13, 14, 16, 17, 141]) (.ite (.s 141) (.exit 5) (.skip))) (.seq (R [c0 142 (.mov 1 (.s 14)), c0 143 (.ld false 5 (.s 142)), c0 144 (.mov 0 (.s 17)), c0 145 (.ld true 3 (.s 144)), cb 146 (.call none (.c (kf 29)) [(.s 143), (.s 145)]), cb 147 (.un .not (.s 146)), cb 148 (.mv (.s 147)), cg 149 148 false (.mov 0 (.s 14)), cg 150 148 false (.ld false 1 (.s 149)), cg 151 148 false (.mov 11 (.s 17)), cg 152 148 false (.mov 0 (.s 151)), cg 153 148 false (.ld false 1 (.s 152)), ch 154 148 false (.bin .leq .any (.s 150) (.s 153)), cb 155 (.pick (.s 148) (.c (kb true)) (.s 154))] [3, 5, 7, 11, 12, 13, 14, 16, 17, 155]) (.ite (.s 155) (.seq (R [cb 6 (.mv (.c (kb false)))] [3, 5, 6, 12, 14, 17]) (.ret)) (.skip)))))) (R [c0 122 (.mv (.s 16)), c0 123 (.bin .add .any (.s 122) (.c (ki .i64 1))), c0 16 (.tk (.s 123))] [3, 5, 7, 11, 12, 13, 14, 16, 17])))))) (.seq (RD (cd (some 156) true none (.mv (.s 7)) false false [7] :: cd (some 157) true none (.mv (.s 156)) false false [156] :: cd (some 158) false (some (157, true)) (.mov 0 (.s 14)) false false [14] :: cd (some 159) false (some (157, true)) (.ld false 1 (.s 158)) false false [158] :: cd (some 160) false (some (157, true)) (.mov 8 (.s 5)) false false [5] :: cd (some 161) false (some (157, true)) (.mov 13 (.s 160)) false false [160] :: cd (some 162) false (some (157, true)) (.mov 0 (.s 161)) false false [161] :: cd (some 163) false (some (157, true)) (.ld false 1 (.s 162)) false false [162] :: cd (some 164) true (some (157, true)) (.bin .geq .any (.s 159) (.s 163)) false false [159, 163] :: cd (some 165) true none (.pick (.s 157) (.s 164) (.c (kb false))) false false [157, 164] :: cd (some 166) true none (.mv (.s 165)) false false [165] :: cd (some 167) false (some (166, true)) (.mv (.s 13)) false false [13] :: cd (some 168) false (some (166, true)) (.ixp 27 (.s 167) (.c (ki .i64 0))) false false [167] :: cd (some 169) false (some (166, true)) (.mov 8 (.s 168)) false false [168] :: cd (some 170) false (some (166, true)) (.mov 5 (.s 169)) false false [169] :: cd (some 171) false (some (166, true)) (.ld true 8 (.s 170)) false false [170] :: cd (some 172) false (some (166, true)) (.mov 8 (.s 5)) false false [5] :: cd (some 173) false (some (166, true)) (.mov 5 (.s 172)) false false [172] :: cd (some 174) false (some (166, true)) (.ld true 8 (.s 173)) false false [173] :: cd (some 175) true (some (166, true)) (.bin .eql (.flat [0, 0, 0, 2, 2, 0, 0, 0]) (.s 171) (.s 174)) false false [171, 174] :: cd (some 176) true none (.pick (.s 166) (.s 175) (.c (kb false))) false false [166, 175] :: cd (some 177) true none (.mv (.s 176)) false false [176] :: cd (some 178) false (some (177, true)) (.mov 1 (.s 14)) false false [14] :: cd (some 179) false (some (177, true)) (.ld false 5 (.s 178)) false false [178] :: cd (some 180) false (some (177, true)) (.mov 3 (.s 5)) false false [5] :: cd (some 181) false (some (177, true)) (.ld true 3 (.s 180)) false false [180] :: cd (some 182) true (some (177, true)) (.call none (.c (kf 29)) [(.s 179), (.s 181)]) false false [179, 181] :: cd (some 183) true (some (177, true)) (.un .not (.s 182)) false false [182] :: cd (some 184) true none (.pick (.s 177) (.s 183) (.c (kb false))) false false [177, 183] :: cd (some 185) true none (.mv (.s 184)) false false [184] :: cd (some 186) false (some (185, true)) (.mov 1 (.s 14)) false false [14] :: cd (some 187) false (some (185, true)) (.ld false 5 (.s 186)) false false [186] :: cd (some 188) true (some (185, true)) (.call none (.c (kf 31)) [(.s 187)]) false false [187] :: cd (some 189) true none (.pick (.s 185) (.s 188) (.c (kb false))) false false [185, 188] :: cd (some 6) true none (.mv (.s 189)) false false [189] :: []) [3, 5, 6, 12, 14, 17] []) (.ret))))))))))))))))
theorem fun10 : Fun Tryz.prog cfg 10 190 cd10 [.s 6] := ⟨rfl, Tryz.f10, _, Tryz.func10, rfl, rfl, by kernel_rfl, by kernel_rfl⟩
@[go_sem] theorem ok10 : calleeOK Tryz.prog 10 = true := by kernel_rfl
@[go_sem] theorem ex10 : (cfg.ext 10).isSome = false := rfl
variable {h : DHeap}
theorem kno_at {l : List Kno} {k : Nat} (hk : k < l.length) (N : List DV → Prop) : IdxP (kns l) (Nf (k : Int)) N = N [vi l[k].id.e, vi l[k].id.n, vi l[k].id.k, vi l[k].cmd.client, vi l[k].cmd.seq, vi l[k].cmd.op, vs l[k].cmd.path, vs l[k].cmd.value, vi l[k].cmd.version, vi l[k].cmd.a, vi l[k].cmd.b, vi l[k].att.seq, .list false 3 (idr l[k].att.deps)] := by
  show IdxP (kns l) (k : Int) N = _
  rw [idxP_kns]
  simp [IdxP, hk]
theorem hearN2_lim {n : Nat} {b : Bk} (O : BkOK n b) (hn : n ≤ 99999) (hc : b.con.nodes.length ≤ 1048576) (m : Mes) (hm : MesOK m) :
    ∃ o, lim Tryz.prog cfg 16 [.ptr 1 0, mesD m] (HN b) = some (.list o 27 (mess (hearB b m).1), HN (hearB b m).2) ∧ ((hearB b m).1 ≠ [] → o = false) := by
  obtain ⟨o, e, h⟩ := hear_lim (atN b) O (hbN b) hn hc m hm
  rw [setN (hear_con b m).1 (hear_con b m).2] at e
  exact ⟨o, e, h⟩
set_option maxHeartbeats 8000000 in
theorem acceptSees_lim (c : Con) (l : List Mes) (m : Mes) : lim Tryz.prog cfg 10 [.agg [vi c.epoch, .list false 1 (vnums c.nodes)], .list false 27 (mess l), mesD m] h = some (vb true, h) := by
  refine lim_funp fun10 rfl (by simp) (by simp [heapFree, heapFree.all, free_vnums, free_mess, free_idr, free_pes, free_pss]) rfl ?_
  delta cd10
  have w := works15_lim (h := [])
  have o1 := over15_lim (h := []) false l
  have o2 := over15_lim (h := []) false [m]
  rw [mess_one] at o2
  cases d1 : overM l with
  | true => rw [d1] at o1; simp -implicitDefEqProofs -dsimp (maxSteps := 300000) only [go_sem, w, o1]
  | false =>
  rw [d1] at o1
  cases d2 : overM [m] with
  | true => rw [d2] at o2; simp -implicitDefEqProofs -dsimp (maxSteps := 300000) only [go_sem, w, o1, o2]
  | false =>
  rw [d2] at o2
  by_cases d3 : 40 < c.nodes.length
  · have d3' : (40 : Int) < (c.nodes.length : Int) := by omega
    simp -implicitDefEqProofs -dsimp (maxSteps := 300000) only [go_sem, w, o1, o2, d3']
  have d3' : ¬ (40 : Int) < (c.nodes.length : Int) := by omega
  by_cases d4 : c.nodes.length = 0
  · have d4' : (c.nodes.length : Int) = 0 := by omega
    simp -implicitDefEqProofs -dsimp (maxSteps := 300000) only [go_sem, w, o1, o2, d3', d4']
  have d4' : ((c.nodes.length : Int) = 0) = False := eq_false (by omega)
  obtain ⟨hl, hl2⟩ := overM_ok d1
  have hm := overM_one d2
  obtain ⟨node, rest, hc⟩ : ∃ n r, c.nodes = n :: r := by
    cases hn : c.nodes with
    | nil => rw [hn] at d4; exact absurd rfl d4
    | cons n r => exact ⟨n, r, rfl⟩
  have qn : ∀ N, IdxP (vnums c.nodes) (Nf (0 : Int)) N = N [vi node] := fun N => by rw [hc]; exact at0 (x := [vi node]) (l := vnums rest)
  have n1 := newN_lim node c (by omega)
  simp -implicitDefEqProofs -dsimp (maxSteps := 300000) only [go_sem, ↓qn, w, o1, o2, d3', d4', n1]
  have O : ∀ k, k ≤ 40 → BkOK 40 (hearAll ⟨node, c, []⟩ (l.take k)) := fun k hk =>
    (hearAll_ok (bkOK_new node c 0) (l.take k) fun x hx => hl2 x (List.mem_of_mem_take hx)).mono (by rw [List.length_take]; omega)
  have C : ∀ k, (hearAll ⟨node, c, []⟩ (l.take k)).con = c := fun k => (hearAll_con ⟨node, c, []⟩ (l.take k)).1
  refine wp_for (σ := Nat) (fun k => [(1, .list false 27 (mess l)), (3, .box [vi c.epoch, .list false 1 (vnums c.nodes)]), (5, .box (mesL m)), (7, vb true), (9, .ptr 1 0), (10, vi (k : Nat)), (12, .junk), (14, .junk), (17, .junk)]) (fun k => HN (hearAll ⟨node, c, []⟩ (l.take k))) (fun k => l.length - k) (fun k => k ≤ l.length) 0 (Nat.zero_le _) rfl rfl ?_
  rintro k hk N hN
  by_cases hlt : k < l.length
  · have h1 : (k : Int) < (l.length : Int) := by omega
    have q := fun N => mess_at hlt N
    obtain ⟨o, e⟩ := hearN_lim (O k (by omega)) (by omega) (by rw [C]; omega) l[k] (hl2 _ (List.getElem_mem hlt))
    have hs : hearAll ⟨node, c, []⟩ (l.take (k + 1)) = (hearB (hearAll ⟨node, c, []⟩ (l.take k)) l[k]).2 := by rw [List.take_succ_eq_append_getElem hlt, hearAll_snoc]
    rw [← hs] at e
    simp -implicitDefEqProofs -dsimp (maxSteps := 300000) only [go_sem, ↓q, h1, e]
    refine hN (k + 1) _ (by omega) (by omega) ?_
    simp -implicitDefEqProofs -dsimp only [go_sem, wrap_succ (show k < 9223372036854775807 by omega)]
  have h1 : ¬ (k : Int) < (l.length : Int) := by omega
  have Ok := O k (by omega)
  have Ck := C k
  generalize hearAll ⟨node, c, []⟩ (l.take k) = bk at Ok Ck
  clear hN hk hl2 O C n1 o1 o2 w d1 d2
  have hm' : MesOK { m with kind := 0 } := ⟨hm.path, hm.deps⟩
  have f1 := known_lim (atN bk) Ok (by omega)
  have g1 := getN_lim Ok (by omega) m.id
  obtain ⟨x1, e1, hx1⟩ := hearN2_lim Ok (by omega) (by rw [Ck]; omega) { m with kind := 0 } hm'
  have hle := hear_len bk { m with kind := 0 }
  have S := fun o => hear_sees Ok (m := { m with kind := 0 }) rfl (o := o)
  have sm := hear_small Ok hm'
  have K := knownB_ok Ok
  have hkl := knownB_len bk
  have hkn := Ok.len
  dsimp only at S
  generalize getB bk m.id = was at *
  generalize HN (hearB bk { m with kind := 0 }).2 = H2 at *
  generalize (hearB bk { m with kind := 0 }).1 = ms at *
  rcases ms with _ | ⟨o, _ | ⟨o2, ms⟩⟩
  · have z0 : (([] : List Mes).length : Int) = 0 := rfl
    cases x1 <;> simp -implicitDefEqProofs -dsimp (maxSteps := 300000) only [go_sem, h1, f1, g1, e1, z0]
  case cons.cons =>
    simp only [List.length_cons] at hle; omega
  have z0 : (([o] : List Mes).length : Int) = 1 := rfl
  have q0 : ∀ N, IdxP (mess [o]) (Nf (0 : Int)) N = N (mesL o) := fun N => mess_at (l := [o]) (k := 0) (by simp) N
  have hx := hx1 (by simp)
  subst hx
  by_cases c1 : o.kind = 1
  case neg =>
    simp -implicitDefEqProofs -dsimp (maxSteps := 300000) only [go_sem, ↓q0, h1, f1, g1, e1, z0, eq_false c1]
  by_cases c2 : 1 ≤ was.st ∧ was.vot = m.bal
  · simp -implicitDefEqProofs -dsimp (maxSteps := 300000) only [go_sem, ↓q0, h1, f1, g1, e1, z0, eq_true c1, c2.1, eq_true c2.2]
  obtain ⟨s1, s2, s3, s4, s5, s6, s7⟩ := S o rfl c1 c2
  have hmd := hm.deps
  have hol := sm o List.mem_cons_self
  have hc2 : (1 ≤ was.st) = False ∨ ((1 ≤ was.st) = True ∧ (was.vot = m.bal) = False) := by
    by_cases z : 1 ≤ was.st
    · exact .inr ⟨eq_true z, eq_false fun y => c2 ⟨z, y⟩⟩
    · exact .inl (eq_false z)
  clear S c2 s1
  generalize knownB bk = kn at *
  generalize HN bk = H1 at *
  rcases hc2 with c2 | ⟨c2, c3⟩
  case' inl => simp -implicitDefEqProofs -dsimp (maxSteps := 300000) only [go_sem, ↓q0, h1, f1, g1, e1, z0, eq_true c1, c2]
  case' inr => simp -implicitDefEqProofs -dsimp (maxSteps := 300000) only [go_sem, ↓q0, h1, f1, g1, e1, z0, eq_true c1, c2, c3]
  all_goals
    refine wp_for (σ := Nat) (fun k => [(3, .box [vi c.epoch, .list false 1 (vnums c.nodes)]), (5, .box (mesL { m with kind := 0 })), (7, vb true), (11, .list true 13 (kns kn)), (12, .box (insL was)), (13, .list false 27 (mess [o])), (14, .box [vi o.ins.att.seq, .list false 3 (idr o.ins.att.deps)]), (15, vi (k : Nat)), (17, .junk)]) (fun _ => H2) (fun k => m.ins.att.deps.length - k) (fun k => k ≤ m.ins.att.deps.length) 0 (Nat.zero_le _) rfl rfl ?_
    rintro j hj M hM
    by_cases gl : j < m.ins.att.deps.length
    · have f1 : (j : Int) < (m.ins.att.deps.length : Int) := by omega
      have e2 := hasD_lim (h := H2) false o.ins.att.deps m.ins.att.deps[j] (by omega)
      rw [decide_eq_true (s6 _ (List.getElem_mem gl))] at e2
      simp -implicitDefEqProofs -dsimp (maxSteps := 300000) only [go_sem, wp_RD, postC_path2, Nat.reduceDiv, f1, gl, e2]
      refine hM (j + 1) _ (by omega) (by omega) ?_
      simp -implicitDefEqProofs -dsimp (maxSteps := 300000) only [go_sem, wrap_succ (show j < 9223372036854775807 by omega)]
    have f1 : ¬ (j : Int) < (m.ins.att.deps.length : Int) := by omega
    simp -implicitDefEqProofs -dsimp (maxSteps := 300000) only [go_sem, f1]
    clear hM hj gl f1
    refine wp_for (σ := Nat × DV) (fun s => [(3, .box [vi c.epoch, .list false 1 (vnums c.nodes)]), (5, .box (mesL { m with kind := 0 })), (7, vb true), (11, .list true 13 (kns kn)), (12, .box (insL was)), (13, .list false 27 (mess [o])), (14, .box [vi o.ins.att.seq, .list false 3 (idr o.ins.att.deps)]), (16, vi (s.1 : Nat)), (17, s.2)]) (fun _ => H2) (fun s => kn.length - s.1) (fun s => s.1 ≤ kn.length) (0, .junk) (Nat.zero_le _) rfl rfl ?_
    rintro ⟨j, y⟩ hj M hM
    dsimp only at hj
    by_cases gl : j < kn.length
    · have f1 : (j : Int) < (kn.length : Int) := by omega
      have qk := fun N => kno_at gl N
      have t7 := s7 kn[j] (List.getElem_mem gl)
      obtain ⟨en, k1, k2, k3⟩ := K kn[j] (List.getElem_mem gl)
      have k4 := k1.path
      have b1 := both_lim (h := H2) kn[j].cmd m.ins.cmd (by rw [k2]; dsimp only at k4; omega) (by have := hm.path; omega)
      by_cases v1 : kn[j].id = m.id
      · simp -implicitDefEqProofs -dsimp (maxSteps := 300000) only [go_sem, ↓qk, f1, eq_true v1]
        refine hM (j + 1, .box [vi kn[j].id.e, vi kn[j].id.n, vi kn[j].id.k, vi kn[j].cmd.client, vi kn[j].cmd.seq, vi kn[j].cmd.op, vs kn[j].cmd.path, vs kn[j].cmd.value, vi kn[j].cmd.version, vi kn[j].cmd.a, vi kn[j].cmd.b, vi kn[j].att.seq, .list false 3 (idr kn[j].att.deps)]) _ (by dsimp only; omega) (by dsimp only; omega) ?_
        simp -implicitDefEqProofs -dsimp (maxSteps := 300000) only [go_sem, wrap_succ (show j < 9223372036854775807 by omega)]
      cases v2 : bothB kn[j].cmd m.ins.cmd with
      | false =>
        rw [v2] at b1
        simp -implicitDefEqProofs -dsimp (maxSteps := 300000) only [go_sem, ↓qk, f1, eq_false v1, b1]
        refine hM (j + 1, .box [vi kn[j].id.e, vi kn[j].id.n, vi kn[j].id.k, vi kn[j].cmd.client, vi kn[j].cmd.seq, vi kn[j].cmd.op, vs kn[j].cmd.path, vs kn[j].cmd.value, vi kn[j].cmd.version, vi kn[j].cmd.a, vi kn[j].cmd.b, vi kn[j].att.seq, .list false 3 (idr kn[j].att.deps)]) _ (by dsimp only; omega) (by dsimp only; omega) ?_
        simp -implicitDefEqProofs -dsimp (maxSteps := 300000) only [go_sem, wrap_succ (show j < 9223372036854775807 by omega)]
      | true =>
        rw [v2] at b1
        obtain ⟨t8, t9⟩ := t7 v1 v2
        have e2 := hasD_lim (h := H2) false o.ins.att.deps kn[j].id (by omega)
        rw [decide_eq_true t8] at e2
        have t10 : ¬ o.ins.att.seq ≤ kn[j].att.seq := by omega
        simp -implicitDefEqProofs -dsimp (maxSteps := 300000) only [go_sem, ↓qk, f1, eq_false v1, b1, e2, t10]
        refine hM (j + 1, .box [vi kn[j].id.e, vi kn[j].id.n, vi kn[j].id.k, vi kn[j].cmd.client, vi kn[j].cmd.seq, vi kn[j].cmd.op, vs kn[j].cmd.path, vs kn[j].cmd.value, vi kn[j].cmd.version, vi kn[j].cmd.a, vi kn[j].cmd.b, vi kn[j].att.seq, .list false 3 (idr kn[j].att.deps)]) _ (by dsimp only; omega) (by dsimp only; omega) ?_
        simp -implicitDefEqProofs -dsimp (maxSteps := 300000) only [go_sem, wrap_succ (show j < 9223372036854775807 by omega)]
    have f1 : ¬ (j : Int) < (kn.length : Int) := by omega
    have e2 := hasD_lim (h := H2) false o.ins.att.deps m.id (by omega)
    rw [decide_eq_false s3] at e2
    have e3 := rightD_lim (h := H2) false o.ins.att.deps (by omega)
    rw [s5] at e3
    simp -implicitDefEqProofs -dsimp (maxSteps := 300000) only [go_sem, wp_RD, postC_path2, Nat.reduceDiv, ↓q0, f1, s4, eq_true s2, e2, e3]
end Go.DS

/-
  The row AcceptSees.
-/
namespace Go.Proofs.YtfmhhincdemhdaaGreat.acceptSees
open Go.ChangeShapes Go.WideShapes Go.ChangeAt Go.RowKit
open Go.ChangeMaps (open_string shut_string)
open Go.DS
set_option linter.unusedVariables false
set_option linter.unusedSimpArgs false

set_option maxRecDepth 100000 in
theorem contract (H : Type) (enc : TypeId × Value → H) (W : World) (base : Nat) (args : Array Value) (ds gs : List (DataW H)) (before : List MemPlace)
    (hval0 : ∀ (j : Nat) t v, Tryz.f10.params[j]? = some t → args[j]? = some v → Value.okWide Tryz.prog W .any base t v)
    (hW : DataW.Whole enc Tryz.prog Tryz.f10.params.toList Rows.acceptSeesSpec.vars false W args.toList ds gs before) (hk : Rows.uptoSmall H (ds ++ gs) = true) :
    Calls Tryz.prog 10 args W fun e W' => ∃ v, e = .returned v ∧ Rows.acceptSeesSpec.post enc Tryz.prog Tryz.f10 false true false false W args v W' := by
  have hval : ∀ (j : Nat) t v, Tryz.f10.params[j]? = some t → args[j]? = some v → Value.okWide Tryz.prog W .any base t v := hval0
  have hW' := hW
  obtain ⟨p, q, hA0, hV, rfl, hfz, hnd⟩ := hW
  have hA : DataW.TrodAll enc Tryz.prog W 0 (fun _ => true) true Tryz.f10.params.toList args.toList ds p := hA0
  rw [Tryz.params10] at hA hval
  obtain ⟨v0, vs0, d0, ds0, p0, q0, hargs, rfl, rfl, h0, r0⟩ := trodAll_cons hA
  obtain ⟨v1, vs1, d1, ds1, p1, q1, rfl, rfl, rfl, h1, r1⟩ := trodAll_cons r0
  obtain ⟨v2, vs2, d2, ds2, p2, q2, rfl, rfl, rfl, h2, r2⟩ := trodAll_cons r1
  obtain ⟨rfl, rfl, rfl⟩ := trodAll_nil r2
  obtain rfl : args = #[v0, v1, v2] := by cases args; simp_all
  obtain ⟨rfl, rfl⟩ := trodVars_none hV
  have lt0 : ∀ x ∈ p0, x.block < W.heap.size := by obtain ⟨m, hm⟩ := h0; exact DataW.trod_lt m _ _ _ hm
  have k0 := h0
  obtain ⟨a0, y0, b0⟩ := arg_con (B := 1048575) (hval 0 24 v0 rfl rfl) h0 (by have hb := of_decide_eq_true hk; simp only [Rows.uptoBulkAll, List.append_nil, List.cons_append, List.nil_append] at hb; omega)
  have lt1 : ∀ x ∈ p1, x.block < W.heap.size := by obtain ⟨m, hm⟩ := h1; exact DataW.trod_lt m _ _ _ hm
  have k1 := h1
  obtain ⟨a1, y1, b1⟩ := arg_mess (B := 1048575) (hval 1 25 v1 rfl rfl) h1 (by have hb := of_decide_eq_true hk; simp only [Rows.uptoBulkAll, List.append_nil, List.cons_append, List.nil_append] at hb; omega)
  have lt2 : ∀ x ∈ p2, x.block < W.heap.size := by obtain ⟨m, hm⟩ := h2; exact DataW.trod_lt m _ _ _ hm
  have k2 := h2
  obtain ⟨a2, y2, b2⟩ := arg_mes (B := 1048575) (hval 2 54 v2 rfl rfl) h2 (by have hb := of_decide_eq_true hk; simp only [Rows.uptoBulkAll, List.append_nil, List.cons_append, List.nil_append] at hb; omega)
  clear hA0 hval0
  have hb := of_decide_eq_true hk
  simp only [Rows.uptoBulkAll, Rows.uptoBulk, List.append_nil] at hb
  refine (Go.DS.start ext_ok (acceptSees_lim a0 a1 a2) W (vs := #[v0, v1, v2]) (.cons (y0) (.cons (y1) (.cons (y2) (.nil _))))).mono fun e W' ⟨he, bel⟩ => ?_
  subst he
  exact ⟨_, rfl, _, _, _, [], _, [], hW', trodAll_mk1 (shut_bool Tryz.underlying4 _), (trodAll_cons_mk (Below.trod laidOut' (by kernel_rfl) (of_decide_eq_true (by kernel_rfl)) k0 bel lt0) (trodAll_cons_mk (Below.trod laidOut' (by kernel_rfl) (of_decide_eq_true (by kernel_rfl)) k1 bel lt1) (trodAll_cons_mk (Below.trod laidOut' (by kernel_rfl) (of_decide_eq_true (by kernel_rfl)) k2 bel lt2) trodAll_mk0))), rfl, bel.frame _, fun h => by cases h⟩

set_option maxRecDepth 100000 in
theorem lifted (os : Os) (started : os.Started) (H : Type) (enc : TypeId × Value → H) (F : Stop.Interp) :
    ReturnsInHanded {} Tryz.checked os 10 .any ((Rows.OpenSpec.upto Rows.acceptSeesSpec).pre6 enc Tryz.prog Tryz.f10 Rows.acceptSeesUptoRow.domain false) (((Rows.OpenSpec.upto Rows.acceptSeesSpec).at F).post enc Tryz.prog Tryz.f10 false true false false) := by
  refine returnsInHanded_of_cond (C := Tryz.checked) (s := Rows.OpenSpec.upto Rows.acceptSeesSpec) (k := Rows.uptoSmall) rfl own' started (by kernel_rfl) Tryz.func10
    (OpenSpec.witness (enc := enc) (C := Tryz.checked) (s := Rows.OpenSpec.upto Rows.acceptSeesSpec) (k := Rows.uptoSmall) rfl false ⟨#[], #[.agg #[.int .i64 0, .slice none 0 0], .slice none 0 0, .agg #[.int .i64 0, .int .i64 0, .int .i64 0, .int .i64 0, .int .i64 0, .int .i64 0, .int .i64 0, .int .i64 0, .int .i64 0, .int .i64 0, .int .i64 0, .int .i64 0, .int .i64 0, .int .i64 0, .int .i64 0, .int .i64 0, .string ByteArray.empty, .string ByteArray.empty, .int .i64 0, .int .i64 0, .int .i64 0, .int .i64 0, .slice none 0 0, .int .i64 0, .slice none 0 0, .slice none 0 0, .slice none 0 0]], []⟩ 8 (by kernel_rfl) (by kernel_rfl) (by kernel_rfl)
      (x := ([.agg [.lit (.int .i64 0), .nil], .nil, .agg [.lit (.int .i64 0), .lit (.int .i64 0), .lit (.int .i64 0), .agg [.lit (.int .i64 0), .lit (.int .i64 0), .lit (.int .i64 0)], .agg [.lit (.int .i64 0), .lit (.int .i64 0)], .agg [.lit (.int .i64 0), .agg [.lit (.int .i64 0), .lit (.int .i64 0)], .agg [.lit (.int .i64 0), .lit (.int .i64 0)], .agg [.lit (.int .i64 0), .lit (.int .i64 0), .lit (.int .i64 0), .lit (.string []), .lit (.string []), .lit (.int .i64 0), .lit (.int .i64 0), .lit (.int .i64 0)], .agg [.lit (.int .i64 0), .nil]], .agg [.agg [.lit (.int .i64 0), .nil], .nil, .nil]]], [], [])) (by kernel_rfl) rfl (by kernel_rfl)) ?_
  intro W base args ds gs before hval hW _ hk _
  exact contract H enc W base args ds gs before hval hW hk

theorem over : Rows.acceptSeesUptoRow.holds Tryz.pinned (Rows.OpenSpec.upto Rows.acceptSeesSpec) :=
  OpenClaim.holds_of_cond 10 Tryz.f10 rfl rfl rfl rfl rfl rfl rfl ⟨rfl, rfl, rfl, rfl, rfl⟩ rfl rfl rfl rfl rfl (by kernel_rfl) Tryz.func10 (by kernel_rfl)
    (of_decide_eq_true (by kernel_rfl)) (by unfold Func.isWrapper; first | (rw [if_pos (by decide +kernel)]; kernel_rfl) | (rw [if_neg (by decide +kernel)]; exact ⟨rfl, rfl⟩))
    (fun os started H enc _ F => lifted os started H enc F)

theorem proved : Rows.AcceptSeesUptoSaid := over
#print axioms proved
end Go.Proofs.YtfmhhincdemhdaaGreat.acceptSees
namespace Go.Proofs.YtfmhhincdemhdaaGreat
theorem acceptSees_holds : Rows.AcceptSeesUptoSaid := acceptSees.proved
end Go.Proofs.YtfmhhincdemhdaaGreat
