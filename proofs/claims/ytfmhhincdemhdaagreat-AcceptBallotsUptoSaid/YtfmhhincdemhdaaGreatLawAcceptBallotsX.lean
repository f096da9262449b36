/-
  Walks: the law AcceptBallots.
-/
import Derived.Test.YtfmhhincdemhdaaGreatH9
import Derived.WalkKit
import Derived.ProofKit
import Derived.OpenShut
import Derived.ShutString
import Derived.ChangeOld
import Derived.Below
import Derived.JoinedCond
import Derived.Carry
set_option linter.unusedSimpArgs false
set_option linter.unusedVariables false
namespace Go.DS
open Go Go.Proofs
set_option maxRecDepth 100000
set_option linter.unusedVariables false
set_option linter.unusedSimpArgs false
def cd9 : Cd := .seq (R [c0 6 (.new false (.s 1)), c0 8 (.new false (.s 3)), c0 9 (.new false (.s 4)), cb 10 (.tk (.c (kb false)))] [0, 2, 6, 8, 9, 14, 18]) (.seq (R [cb 19 (.call none (.c (kf 11)) []), cb 11 (.tk (.s 19))] [0, 2, 6, 8, 9, 11, 14, 18]) (.seq (.seq (R [cb 20 (.mv (.s 11)), cb 21 (.un .not (.s 20))] [0, 2, 6, 8, 9, 11, 14, 18, 21]) (.ite (.s 21) (.seq (R [cb 10 (.tk (.c (kb false)))] [6, 8, 9, 10, 14, 18]) (.ret)) (.skip))) (.seq (.seq (R [c0 22 (.mv (.s 2)), cb 23 (.call none (.c (kf 12)) [(.s 22)]), cb 24 (.mv (.s 23)), cg 25 24 false (.ld true 27 (.s 8)), cg 26 24 false (.ld true 27 (.s 9)), cg 27 24 false (.bsl 27 [(.s 25), (.s 26)]), ch 28 24 false (.call none (.c (kf 12)) [(.s 27)]), cb 29 (.pick (.s 24) (.c (kb true)) (.s 28)), cb 30 (.mv (.s 29)), cg 31 30 false (.mov 1 (.s 6)), cg 32 30 false (.ld false 3 (.s 31)), cg 33 30 false (.len 1 (.s 32)), ch 34 30 false (.bin .gtr .any (.s 33) (.c (ki .i64 40))), cb 35 (.pick (.s 30) (.c (kb true)) (.s 34))] [0, 2, 6, 8, 9, 11, 14, 18, 35]) (.ite (.s 35) (.seq (R [cb 36 (.mv (.s 11)), cb 10 (.tk (.s 36))] [6, 8, 9, 10, 14, 18]) (.ret)) (.skip))) (.seq (R [c0 37 (.mv (.s 0)), c0 38 (.ld true 2 (.s 6)), c0 39 (.call none (.c (kf 13)) [(.s 37), (.s 38)]), c0 12 (.tk (.s 39))] [2, 6, 8, 9, 11, 12, 14, 18]) (.seq (.seq (R [c0 13 (.tk (.c (ki .i64 0)))] [2, 6, 8, 9, 11, 12, 13, 14, 18]) (.block 0 (LP [2, 6, 8, 9, 11, 12, 13, 14, 18] (.seq (.seq (R [c0 40 (.mv (.s 13)), c0 41 (.mv (.s 2)), c0 42 (.len 1 (.s 41)), cb 43 (.bin .lss .any (.s 40) (.s 42))] [2, 6, 8, 9, 11, 12, 13, 14, 18, 43]) (.ite (.s 43) (.skip) (.exit 0))) (.seq (.block 1 (R [c0 46 (.mv (.s 12)), c0 47 (.mv (.s 2)), c0 48 (.mv (.s 13)), c0 49 (.ixp 27 (.s 47) (.s 48)), c0 50 (.ld true 27 (.s 49)), c0 51 (.call none (.c (kf 16)) [(.s 46), (.s 50)])] [2, 6, 8, 9, 11, 12, 13, 14, 18])) (R [c0 44 (.mv (.s 13)), c0 45 (.bin .add .any (.s 44) (.c (ki .i64 1))), c0 13 (.tk (.s 45))] [2, 6, 8, 9, 11, 12, 13, 14, 18])))))) (.seq (R [c0 52 (.mov 0 (.s 8)), cn (.st 1 (.s 52) (.c (ki .i64 2)))] [6, 8, 9, 11, 12, 14, 18]) (.seq (R [c0 53 (.mov 0 (.s 9)), cn (.st 1 (.s 53) (.c (ki .i64 2)))] [6, 8, 9, 11, 12, 14, 18]) (.seq (R [c0 54 (.mv (.s 12)), c0 55 (.mov 3 (.s 8)), c0 56 (.ld true 3 (.s 55)), c0 57 (.call none (.c (kf 20)) [(.s 54), (.s 56)]), c0 14 (.new false (.c (.agg [ki .i64 0, ki .i64 0, ki .i64 0, ki .i64 0, ki .i64 0, ki .i64 0, ki .i64 0, ki .i64 0, ks [], ks [], ki .i64 0, ki .i64 0, ki .i64 0, ki .i64 0, kn 3]))), cn (.st 15 (.s 14) (.s 57))] [6, 8, 9, 11, 12, 14, 18]) (.seq (.seq (R (c0 58 (.mv (.s 12)) :: c0 59 (.ld true 27 (.s 8)) :: cb 60 (.call none (.c (kf 15)) [(.s 58), (.s 59)]) :: cb 61 (.un .not (.s 60)) :: cb 62 (.mv (.s 61)) :: cg 63 62 false (.mv (.s 12)) :: cg 64 62 false (.ld true 27 (.s 9)) :: ch 65 62 false (.call none (.c (kf 15)) [(.s 63), (.s 64)]) :: ch 66 62 false (.un .not (.s 65)) :: cb 67 (.pick (.s 62) (.c (kb true)) (.s 66)) :: cb 68 (.mv (.s 67)) :: cg 69 68 false (.mov 3 (.s 8)) :: cg 70 68 false (.ld true 3 (.s 69)) :: cg 71 68 false (.mov 3 (.s 9)) :: cg 72 68 false (.ld true 3 (.s 71)) :: ch 73 68 false (.bin .neq (.flat [0, 0, 0]) (.s 70) (.s 72)) :: cb 74 (.pick (.s 68) (.c (kb true)) (.s 73)) :: cb 75 (.mv (.s 74)) :: cg 76 75 false (.mov 0 (.s 14)) :: cg 77 75 false (.ld false 1 (.s 76)) :: ch 78 75 false (.bin .eql .any (.s 77) (.c (ki .i64 3))) :: cb 79 (.pick (.s 75) (.c (kb true)) (.s 78)) :: cb 80 (.mv (.s 79)) :: cg 81 80 false (.mov 6 (.s 8)) :: cg 82 80 false (.ld true 2 (.s 81)) :: cg 83 80 false (.mov 1 (.s 14)) :: cg 84 80 false (.ld true 2 (.s 83)) :: ch 85 80 false (.call none (.c (kf 26)) [(.s 82), (.s 84)]) :: cb 86 (.pick (.s 80) (.c (kb true)) (.s 85)) :: cb 87 (.mv (.s 86)) :: cg 88 87 false (.mov 6 (.s 8)) :: cg 89 87 false (.ld true 2 (.s 88)) :: cg 90 87 false (.mov 6 (.s 9)) :: cg 91 87 false (.ld true 2 (.s 90)) :: ch 92 87 false (.call none (.c (kf 26)) [(.s 89), (.s 91)]) :: ch 93 87 false (.un .not (.s 92)) :: cb 94 (.pick (.s 87) (.c (kb true)) (.s 93)) :: []) [6, 8, 9, 11, 12, 14, 18, 94]) (.ite (.s 94) (.seq (R [cb 95 (.mv (.s 11)), cb 10 (.tk (.s 95))] [6, 8, 9, 10, 14, 18]) (.ret)) (.skip))) (.seq (R [c0 96 (.mv (.s 12)), c0 97 (.ld true 27 (.s 8)), c0 98 (.call none (.c (kf 16)) [(.s 96), (.s 97)]), c0 15 (.tk (.s 98))] [6, 8, 9, 11, 12, 14, 15, 18]) (.seq (R [c0 99 (.mv (.s 12)), c0 100 (.ld true 27 (.s 9)), c0 101 (.call none (.c (kf 16)) [(.s 99), (.s 100)]), c0 16 (.tk (.s 101))] [6, 8, 9, 11, 12, 14, 15, 16, 18]) (.seq (R [c0 102 (.mv (.s 12)), c0 103 (.ld true 27 (.s 8)), c0 104 (.call none (.c (kf 16)) [(.s 102), (.s 103)]), c0 17 (.tk (.s 104))] [6, 8, 9, 11, 12, 14, 15, 16, 17, 18]) (.seq (R [c0 105 (.mv (.s 12)), c0 106 (.mov 3 (.s 8)), c0 107 (.ld true 3 (.s 106)), c0 108 (.call none (.c (kf 20)) [(.s 105), (.s 107)]), c0 18 (.new false (.c (.agg [ki .i64 0, ki .i64 0, ki .i64 0, ki .i64 0, ki .i64 0, ki .i64 0, ki .i64 0, ki .i64 0, ks [], ks [], ki .i64 0, ki .i64 0, ki .i64 0, ki .i64 0, kn 3]))), cn (.st 15 (.s 18) (.s 108))] [6, 8, 9, 11, 14, 15, 16, 17, 18]) (.seq (R (cb 109 (.mv (.s 11)) :: cb 110 (.mv (.s 109)) :: cg 111 110 true (.mv (.s 15)) :: cg 112 110 true (.len 1 (.s 111)) :: ch 113 110 true (.bin .eql .any (.s 112) (.c (ki .i64 1))) :: cb 114 (.pick (.s 110) (.s 113) (.c (kb false))) :: cb 115 (.mv (.s 114)) :: cg 116 115 true (.mv (.s 15)) :: cg 117 115 true (.ixp 27 (.s 116) (.c (ki .i64 0))) :: cg 118 115 true (.mov 0 (.s 117)) :: cg 119 115 true (.ld false 1 (.s 118)) :: ch 120 115 true (.bin .eql .any (.s 119) (.c (ki .i64 3))) :: cb 121 (.pick (.s 115) (.s 120) (.c (kb false))) :: cb 122 (.mv (.s 121)) :: cg 123 122 true (.mv (.s 16)) :: cg 124 122 true (.len 1 (.s 123)) :: ch 125 122 true (.bin .eql .any (.s 124) (.c (ki .i64 1))) :: cb 126 (.pick (.s 122) (.s 125) (.c (kb false))) :: cb 127 (.mv (.s 126)) :: cg 128 127 true (.mv (.s 16)) :: cg 129 127 true (.ixp 27 (.s 128) (.c (ki .i64 0))) :: cg 130 127 true (.mov 0 (.s 129)) :: cg 131 127 true (.ld false 1 (.s 130)) :: ch 132 127 true (.bin .eql .any (.s 131) (.c (ki .i64 3))) :: cb 133 (.pick (.s 127) (.s 132) (.c (kb false))) :: cb 134 (.mv (.s 133)) :: cg 135 134 true (.mv (.s 17)) :: cg 136 134 true (.len 1 (.s 135)) :: ch 137 134 true (.bin .eql .any (.s 136) (.c (ki .i64 1))) :: cb 138 (.pick (.s 134) (.s 137) (.c (kb false))) :: cb 139 (.mv (.s 138)) :: cg 140 139 true (.mv (.s 17)) :: cg 141 139 true (.ixp 27 (.s 140) (.c (ki .i64 0))) :: cg 142 139 true (.mov 0 (.s 141)) :: cg 143 139 true (.ld false 1 (.s 142)) :: ch 144 139 true (.bin .eql .any (.s 143) (.c (ki .i64 7))) :: cb 145 (.pick (.s 139) (.s 144) (.c (kb false))) :: cb 146 (.mv (.s 145)) :: cg 147 146 true (.mov 3 (.s 18)) :: cg 148 146 true (.ld true 2 (.s 147)) :: cg 149 146 true (.mov 6 (.s 9)) :: cg 150 146 true (.ld true 2 (.s 149)) :: ch 151 146 true (.bin .eql (.flat [0, 0]) (.s 148) (.s 150)) :: cb 152 (.pick (.s 146) (.s 151) (.c (kb false))) :: cb 153 (.mv (.s 152)) :: cg 154 153 true (.mov 5 (.s 18)) :: cg 155 153 true (.ld true 8 (.s 154)) :: cg 156 153 true (.mov 8 (.s 9)) :: cg 157 153 true (.mov 5 (.s 156)) :: cg 158 153 true (.ld true 8 (.s 157)) :: ch 159 153 true (.bin .eql (.flat [0, 0, 0, 2, 2, 0, 0, 0]) (.s 155) (.s 158)) :: cb 160 (.pick (.s 153) (.s 159) (.c (kb false))) :: cb 161 (.mv (.s 160)) :: cg 162 161 true (.mov 0 (.s 18)) :: cg 163 161 true (.ld false 1 (.s 162)) :: ch 164 161 true (.bin .eql .any (.s 163) (.c (ki .i64 2))) :: cb 165 (.pick (.s 161) (.s 164) (.c (kb false))) :: cb 10 (.tk (.s 165)) :: []) [6, 8, 9, 10, 14, 18]) (.ret)))))))))))))))
theorem fun9 : Fun Tryz.prog cfg 9 166 cd9 [.s 10] := ⟨rfl, Tryz.f9, _, Tryz.func9, rfl, rfl, by kernel_rfl, by kernel_rfl⟩
@[go_sem] theorem ok9 : calleeOK Tryz.prog 9 = true := by kernel_rfl
@[go_sem] theorem ex9 : (cfg.ext 9).isSome = false := rfl
variable {h : DHeap}
set_option maxHeartbeats 4000000 in
theorem acceptBallots_lim (node : Int) (c : Con) (l : List Mes) (a b : Mes) : lim Tryz.prog cfg 9 [vi node, .agg [vi c.epoch, .list false 1 (vnums c.nodes)], .list false 27 (mess l), mesD a, mesD b] h = some (vb true, h) := by
  refine lim_funp fun9 rfl (by simp) (by simp [heapFree, heapFree.all, free_vnums, free_mess, free_idr, free_pes, free_pss]) rfl ?_
  delta cd9
  have w := works15_lim (h := [])
  have o1 := over15_lim (h := []) false l
  have o2 : lim Tryz.prog cfg 12 [.list false 27 [mesL a, mesL b]] [] = some (vb (overM [a, b]), []) := over15_lim (h := []) false [a, b]
  cases d1 : overM l with
  | true => rw [d1] at o1; simp -implicitDefEqProofs -dsimp (maxSteps := 300000) only [go_sem, w, o1]
  | false =>
  rw [d1] at o1
  cases d2 : overM [a, b] with
  | true => rw [d2] at o2; simp -implicitDefEqProofs -dsimp (maxSteps := 300000) only [go_sem, w, o1, o2]
  | false =>
  rw [d2] at o2
  by_cases d3 : 40 < c.nodes.length
  · have d3' : (40 : Int) < (c.nodes.length : Int) := by omega
    simp -implicitDefEqProofs -dsimp (maxSteps := 300000) only [go_sem, w, o1, o2, d3']
  have d3' : ¬ (40 : Int) < (c.nodes.length : Int) := by omega
  obtain ⟨hl, hl2⟩ := overM_ok d1
  have ha : MesOK a := (overM_ok d2).2 a (by simp)
  have hb : MesOK b := (overM_ok d2).2 b (by simp)
  have n1 := newN_lim node c (by omega)
  simp -implicitDefEqProofs -dsimp (maxSteps := 300000) only [go_sem, w, o1, o2, d3', n1]
  have O : ∀ k, k ≤ 40 → BkOK 40 (hearAll ⟨node, c, []⟩ (l.take k)) := fun k hk =>
    (hearAll_ok (bkOK_new node c 0) (l.take k) fun x hx => hl2 x (List.mem_of_mem_take hx)).mono (by rw [List.length_take]; omega)
  have C : ∀ k, (hearAll ⟨node, c, []⟩ (l.take k)).con = c := fun k => (hearAll_con ⟨node, c, []⟩ (l.take k)).1
  refine wp_for (σ := Nat) (fun k => [(2, .list false 27 (mess l)), (6, .box [vi c.epoch, .list false 1 (vnums c.nodes)]), (8, .box (mesL a)), (9, .box (mesL b)), (11, vb true), (12, .ptr 1 0), (13, vi (k : Nat)), (14, .junk), (18, .junk)]) (fun k => HN (hearAll ⟨node, c, []⟩ (l.take k))) (fun k => l.length - k) (fun k => k ≤ l.length) 0 (Nat.zero_le _) rfl rfl ?_
  rintro k hk N hN
  by_cases hlt : k < l.length
  · have h1 : (k : Int) < (l.length : Int) := by omega
    have q := fun N => mess_at hlt N
    obtain ⟨o, e⟩ := hearN_lim (O k (by omega)) (by omega) (by rw [C]; omega) l[k] (hl2 _ (List.getElem_mem hlt))
    have hs : hearAll ⟨node, c, []⟩ (l.take (k + 1)) = (hearB (hearAll ⟨node, c, []⟩ (l.take k)) l[k]).2 := by rw [List.take_succ_eq_append_getElem hlt, hearAll_snoc]
    rw [← hs] at e
    simp -implicitDefEqProofs -dsimp (maxSteps := 300000) only [go_sem, ↓q, h1, e]
    refine hN (k + 1) _ (by omega) (by omega) ?_
    simp -implicitDefEqProofs -dsimp only [go_sem, wrap_succ (show k < 9223372036854775807 by omega)]
  · have h1 : ¬ (k : Int) < (l.length : Int) := by omega
    have Ok := O k (by omega)
    have Ck := C k
    generalize hearAll ⟨node, c, []⟩ (l.take k) = bk at Ok Ck
    clear hN hk hl2 O C n1 o1 o2 w d1 d2 d3'
    have ha' : MesOK { a with kind := 2 } := ⟨ha.path, ha.deps⟩
    have hb' : MesOK { b with kind := 2 } := ⟨hb.path, hb.deps⟩
    have r1 := rightN_lim (b := bk) (by rw [Ck]; omega) { a with kind := 2 } ha'
    have r2 := rightN_lim (b := bk) (by rw [Ck]; omega) { b with kind := 2 } hb'
    have g1 := getN_lim Ok (by omega) a.id
    have t1 := lessB_lim (h := HN bk) a.bal (getB bk a.id).pro
    have t2 := lessB_lim (h := HN bk) a.bal b.bal
    cases c1 : rightB bk { a with kind := 2 } with
    | false =>
      rw [c1] at r1
      simp -implicitDefEqProofs -dsimp (maxSteps := 300000) only [go_sem, h1, g1, r1]
    | true =>
    rw [c1] at r1
    cases c2 : rightB bk { b with kind := 2 } with
    | false =>
      rw [c2] at r2
      simp -implicitDefEqProofs -dsimp (maxSteps := 300000) only [go_sem, h1, g1, r1, r2]
    | true =>
    rw [c2] at r2
    by_cases c3 : a.id = b.id
    case neg =>
      simp -implicitDefEqProofs -dsimp (maxSteps := 300000) only [go_sem, h1, g1, r1, r2, eq_false c3]
    by_cases c4 : (getB bk a.id).st = 3
    · simp -implicitDefEqProofs -dsimp (maxSteps := 300000) only [go_sem, h1, g1, r1, r2, eq_true c3, eq_true c4]
    cases c5 : lessB a.bal (getB bk a.id).pro with
    | true =>
      rw [c5] at t1
      simp -implicitDefEqProofs -dsimp (maxSteps := 300000) only [go_sem, h1, g1, r1, r2, eq_true c3, eq_false c4, t1]
    | false =>
    rw [c5] at t1
    cases c6 : lessB a.bal b.bal with
    | false =>
      rw [c6] at t2
      simp -implicitDefEqProofs -dsimp (maxSteps := 300000) only [go_sem, h1, g1, r1, r2, eq_true c3, eq_false c4, t1, t2]
    | true =>
    rw [c6] at t2
    obtain ⟨k1, k2, f1, f2, f3, f4⟩ := hear_ballots (a := { a with kind := 2 }) (b := { b with kind := 2 }) rfl rfl c1 c2 c3.symm c4 c5 c6
    obtain ⟨x1, e1⟩ := hearN_lim Ok (by omega) (by rw [Ck]; omega) { a with kind := 2 } ha'
    have O1 := hear_ok Ok ha'
    have C1 : (hearB bk { a with kind := 2 }).2.con = c := (hear_con bk { a with kind := 2 }).1.trans Ck
    rw [f1] at e1 O1 C1
    dsimp only at O1 C1
    obtain ⟨x2, e2⟩ := hearN_lim O1 (by omega) (by rw [C1]; omega) { b with kind := 2 } hb'
    have O2 := hear_ok O1 hb'
    have C2 : (hearB k1 { b with kind := 2 }).2.con = c := (hear_con k1 { b with kind := 2 }).1.trans C1
    rw [f2] at e2 O2 C2
    dsimp only at O2 C2
    obtain ⟨x3, e3⟩ := hearN_lim O2 (by omega) (by rw [C2]; omega) { a with kind := 2 } ha'
    rw [f3] at e3
    have g3 := getN_lim O2 (by omega) a.id
    rw [f4] at g3
    dsimp only at e1 e2 e3 g3
    have q1 : ∀ N, IdxP (mess [ansB bk { a with kind := 2 } 3 ⟨2, a.bal, a.bal, a.ins.cmd, a.ins.att⟩]) (Nf (0 : Int)) N = N (mesL (ansB bk { a with kind := 2 } 3 ⟨2, a.bal, a.bal, a.ins.cmd, a.ins.att⟩)) := fun N => mess_at (l := [_]) (k := 0) (by simp) N
    have q2 : ∀ N, IdxP (mess [ansB bk { b with kind := 2 } 3 ⟨2, b.bal, b.bal, b.ins.cmd, b.ins.att⟩]) (Nf (0 : Int)) N = N (mesL (ansB bk { b with kind := 2 } 3 ⟨2, b.bal, b.bal, b.ins.cmd, b.ins.att⟩)) := fun N => mess_at (l := [_]) (k := 0) (by simp) N
    have q3 : ∀ N, IdxP (mess [ansB bk { a with kind := 2, bal := b.bal } 7 ins0]) (Nf (0 : Int)) N = N (mesL (ansB bk { a with kind := 2, bal := b.bal } 7 ins0)) := fun N => mess_at (l := [_]) (k := 0) (by simp) N
    simp only [ansB] at q1 q2 q3 e1 e2 e3
    generalize hm1 : mess _ = M1 at q1 e1
    generalize hm2 : mess _ = M2 at q2 e2
    generalize hm3 : mess _ = M3 at q3 e3
    have z1 : (M1.length : Int) = 1 := by rw [← hm1, mess_len]; rfl
    have z2 : (M2.length : Int) = 1 := by rw [← hm2, mess_len]; rfl
    have z3 : (M3.length : Int) = 1 := by rw [← hm3, mess_len]; rfl
    clear hm1 hm2 hm3 f1 f2 f3 f4 O1 O2 C1 C2
    cases x1 <;> cases x2 <;> cases x3 <;> simp -implicitDefEqProofs -dsimp (maxSteps := 300000) only [go_sem, h1, g1, r1, r2, eq_true c3, eq_false c4, t1, t2, ↓q1, ↓q2, ↓q3, e1, e2, e3, g3, z1, z2, z3]
end Go.DS

/-
  The row AcceptBallots.
-/
namespace Go.Proofs.YtfmhhincdemhdaaGreat.acceptBallots
open Go.ChangeShapes Go.WideShapes Go.ChangeAt Go.RowKit
open Go.ChangeMaps (open_string shut_string)
open Go.DS
set_option linter.unusedVariables false
set_option linter.unusedSimpArgs false

set_option maxRecDepth 100000 in
theorem contract (H : Type) (enc : TypeId × Value → H) (W : World) (base : Nat) (args : Array Value) (ds gs : List (DataW H)) (before : List MemPlace)
    (hval0 : ∀ (j : Nat) t v, Tryz.f9.params[j]? = some t → args[j]? = some v → Value.okWide Tryz.prog W .any base t v)
    (hW : DataW.Whole enc Tryz.prog Tryz.f9.params.toList Rows.acceptBallotsSpec.vars false W args.toList ds gs before) (hk : Rows.uptoSmall H (ds ++ gs) = true) :
    Calls Tryz.prog 9 args W fun e W' => ∃ v, e = .returned v ∧ Rows.acceptBallotsSpec.post enc Tryz.prog Tryz.f9 false true false false W args v W' := by
  have hval : ∀ (j : Nat) t v, Tryz.f9.params[j]? = some t → args[j]? = some v → Value.okWide Tryz.prog W .any base t v := hval0
  have hW' := hW
  obtain ⟨p, q, hA0, hV, rfl, hfz, hnd⟩ := hW
  have hA : DataW.TrodAll enc Tryz.prog W 0 (fun _ => true) true Tryz.f9.params.toList args.toList ds p := hA0
  rw [Tryz.params9] at hA hval
  obtain ⟨v0, vs0, d0, ds0, p0, q0, hargs, rfl, rfl, h0, r0⟩ := trodAll_cons hA
  obtain ⟨v1, vs1, d1, ds1, p1, q1, rfl, rfl, rfl, h1, r1⟩ := trodAll_cons r0
  obtain ⟨v2, vs2, d2, ds2, p2, q2, rfl, rfl, rfl, h2, r2⟩ := trodAll_cons r1
  obtain ⟨v3, vs3, d3, ds3, p3, q3, rfl, rfl, rfl, h3, r3⟩ := trodAll_cons r2
  obtain ⟨v4, vs4, d4, ds4, p4, q4, rfl, rfl, rfl, h4, r4⟩ := trodAll_cons r3
  obtain ⟨rfl, rfl, rfl⟩ := trodAll_nil r4
  obtain rfl : args = #[v0, v1, v2, v3, v4] := by cases args; simp_all
  obtain ⟨rfl, rfl⟩ := trodVars_none hV
  have lt0 : ∀ x ∈ p0, x.block < W.heap.size := by obtain ⟨m, hm⟩ := h0; exact DataW.trod_lt m _ _ _ hm
  have k0 := h0
  obtain ⟨a0, rfl, rfl, rfl, y0⟩ := open_int Tryz.underlying3 (hval 0 3 v0 rfl rfl) h0
  have lt1 : ∀ x ∈ p1, x.block < W.heap.size := by obtain ⟨m, hm⟩ := h1; exact DataW.trod_lt m _ _ _ hm
  have k1 := h1
  obtain ⟨a1, y1, b1⟩ := arg_con (B := 1048575) (hval 1 24 v1 rfl rfl) h1 (by have hb := of_decide_eq_true hk; simp only [Rows.uptoBulkAll, List.append_nil, List.cons_append, List.nil_append] at hb; omega)
  have lt2 : ∀ x ∈ p2, x.block < W.heap.size := by obtain ⟨m, hm⟩ := h2; exact DataW.trod_lt m _ _ _ hm
  have k2 := h2
  obtain ⟨a2, y2, b2⟩ := arg_mess (B := 1048575) (hval 2 25 v2 rfl rfl) h2 (by have hb := of_decide_eq_true hk; simp only [Rows.uptoBulkAll, List.append_nil, List.cons_append, List.nil_append] at hb; omega)
  have lt3 : ∀ x ∈ p3, x.block < W.heap.size := by obtain ⟨m, hm⟩ := h3; exact DataW.trod_lt m _ _ _ hm
  have k3 := h3
  obtain ⟨a3, y3, b3⟩ := arg_mes (B := 1048575) (hval 3 54 v3 rfl rfl) h3 (by have hb := of_decide_eq_true hk; simp only [Rows.uptoBulkAll, List.append_nil, List.cons_append, List.nil_append] at hb; omega)
  have lt4 : ∀ x ∈ p4, x.block < W.heap.size := by obtain ⟨m, hm⟩ := h4; exact DataW.trod_lt m _ _ _ hm
  have k4 := h4
  obtain ⟨a4, y4, b4⟩ := arg_mes (B := 1048575) (hval 4 54 v4 rfl rfl) h4 (by have hb := of_decide_eq_true hk; simp only [Rows.uptoBulkAll, List.append_nil, List.cons_append, List.nil_append] at hb; omega)
  clear hA0 hval0
  have hb := of_decide_eq_true hk
  simp only [Rows.uptoBulkAll, Rows.uptoBulk, List.append_nil] at hb
  refine (Go.DS.start ext_ok (acceptBallots_lim a0 a1 a2 a3 a4) W (vs := #[.int .i64 a0, v1, v2, v3, v4]) (.cons (.sc _) (.cons (y1) (.cons (y2) (.cons (y3) (.cons (y4) (.nil _))))))).mono fun e W' ⟨he, bel⟩ => ?_
  subst he
  exact ⟨_, rfl, _, _, _, [], _, [], hW', trodAll_mk1 (shut_bool Tryz.underlying4 _), (trodAll_cons_mk (Below.trod laidOut' (by kernel_rfl) (of_decide_eq_true (by kernel_rfl)) k0 bel lt0) (trodAll_cons_mk (Below.trod laidOut' (by kernel_rfl) (of_decide_eq_true (by kernel_rfl)) k1 bel lt1) (trodAll_cons_mk (Below.trod laidOut' (by kernel_rfl) (of_decide_eq_true (by kernel_rfl)) k2 bel lt2) (trodAll_cons_mk (Below.trod laidOut' (by kernel_rfl) (of_decide_eq_true (by kernel_rfl)) k3 bel lt3) (trodAll_cons_mk (Below.trod laidOut' (by kernel_rfl) (of_decide_eq_true (by kernel_rfl)) k4 bel lt4) trodAll_mk0))))), rfl, bel.frame _, fun h => by cases h⟩

set_option maxRecDepth 100000 in
theorem lifted (os : Os) (started : os.Started) (H : Type) (enc : TypeId × Value → H) (F : Stop.Interp) :
    ReturnsInHanded {} Tryz.checked os 9 .any ((Rows.OpenSpec.upto Rows.acceptBallotsSpec).pre6 enc Tryz.prog Tryz.f9 Rows.acceptBallotsUptoRow.domain false) (((Rows.OpenSpec.upto Rows.acceptBallotsSpec).at F).post enc Tryz.prog Tryz.f9 false true false false) := by
  refine returnsInHanded_of_cond (C := Tryz.checked) (s := Rows.OpenSpec.upto Rows.acceptBallotsSpec) (k := Rows.uptoSmall) rfl own' started (by kernel_rfl) Tryz.func9
    (OpenSpec.witness (enc := enc) (C := Tryz.checked) (s := Rows.OpenSpec.upto Rows.acceptBallotsSpec) (k := Rows.uptoSmall) rfl false ⟨#[], #[.int .i64 0, .agg #[.int .i64 0, .slice none 0 0], .slice none 0 0, .agg #[.int .i64 0, .int .i64 0, .int .i64 0, .int .i64 0, .int .i64 0, .int .i64 0, .int .i64 0, .int .i64 0, .int .i64 0, .int .i64 0, .int .i64 0, .int .i64 0, .int .i64 0, .int .i64 0, .int .i64 0, .int .i64 0, .string ByteArray.empty, .string ByteArray.empty, .int .i64 0, .int .i64 0, .int .i64 0, .int .i64 0, .slice none 0 0, .int .i64 0, .slice none 0 0, .slice none 0 0, .slice none 0 0], .agg #[.int .i64 0, .int .i64 0, .int .i64 0, .int .i64 0, .int .i64 0, .int .i64 0, .int .i64 0, .int .i64 0, .int .i64 0, .int .i64 0, .int .i64 0, .int .i64 0, .int .i64 0, .int .i64 0, .int .i64 0, .int .i64 0, .string ByteArray.empty, .string ByteArray.empty, .int .i64 0, .int .i64 0, .int .i64 0, .int .i64 0, .slice none 0 0, .int .i64 0, .slice none 0 0, .slice none 0 0, .slice none 0 0]], []⟩ 8 (by kernel_rfl) (by kernel_rfl) (by kernel_rfl)
      (x := ([.lit (.int .i64 0), .agg [.lit (.int .i64 0), .nil], .nil, .agg [.lit (.int .i64 0), .lit (.int .i64 0), .lit (.int .i64 0), .agg [.lit (.int .i64 0), .lit (.int .i64 0), .lit (.int .i64 0)], .agg [.lit (.int .i64 0), .lit (.int .i64 0)], .agg [.lit (.int .i64 0), .agg [.lit (.int .i64 0), .lit (.int .i64 0)], .agg [.lit (.int .i64 0), .lit (.int .i64 0)], .agg [.lit (.int .i64 0), .lit (.int .i64 0), .lit (.int .i64 0), .lit (.string []), .lit (.string []), .lit (.int .i64 0), .lit (.int .i64 0), .lit (.int .i64 0)], .agg [.lit (.int .i64 0), .nil]], .agg [.agg [.lit (.int .i64 0), .nil], .nil, .nil]], .agg [.lit (.int .i64 0), .lit (.int .i64 0), .lit (.int .i64 0), .agg [.lit (.int .i64 0), .lit (.int .i64 0), .lit (.int .i64 0)], .agg [.lit (.int .i64 0), .lit (.int .i64 0)], .agg [.lit (.int .i64 0), .agg [.lit (.int .i64 0), .lit (.int .i64 0)], .agg [.lit (.int .i64 0), .lit (.int .i64 0)], .agg [.lit (.int .i64 0), .lit (.int .i64 0), .lit (.int .i64 0), .lit (.string []), .lit (.string []), .lit (.int .i64 0), .lit (.int .i64 0), .lit (.int .i64 0)], .agg [.lit (.int .i64 0), .nil]], .agg [.agg [.lit (.int .i64 0), .nil], .nil, .nil]]], [], [])) (by kernel_rfl) rfl (by kernel_rfl)) ?_
  intro W base args ds gs before hval hW _ hk _
  exact contract H enc W base args ds gs before hval hW hk

theorem over : Rows.acceptBallotsUptoRow.holds Tryz.pinned (Rows.OpenSpec.upto Rows.acceptBallotsSpec) :=
  OpenClaim.holds_of_cond 9 Tryz.f9 rfl rfl rfl rfl rfl rfl rfl ⟨rfl, rfl, rfl, rfl, rfl⟩ rfl rfl rfl rfl rfl (by kernel_rfl) Tryz.func9 (by kernel_rfl)
    (of_decide_eq_true (by kernel_rfl)) (by unfold Func.isWrapper; first | (rw [if_pos (by decide +kernel)]; kernel_rfl) | (rw [if_neg (by decide +kernel)]; exact ⟨rfl, rfl⟩))
    (fun os started H enc _ F => lifted os started H enc F)

theorem proved : Rows.AcceptBallotsUptoSaid := over
#print axioms proved
end Go.Proofs.YtfmhhincdemhdaaGreat.acceptBallots
namespace Go.Proofs.YtfmhhincdemhdaaGreat
theorem acceptBallots_holds : Rows.AcceptBallotsUptoSaid := acceptBallots.proved
end Go.Proofs.YtfmhhincdemhdaaGreat
