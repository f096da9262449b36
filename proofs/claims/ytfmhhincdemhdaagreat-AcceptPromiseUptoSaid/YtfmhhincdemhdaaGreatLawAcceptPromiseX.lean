/-
  Walks: the law AcceptPromise.
-/
import Derived.Test.YtfmhhincdemhdaaGreatH9
import Derived.WalkKit
import Derived.ProofKit
import Derived.OpenShut
import Derived.ShutString
import Derived.ChangeOld
import Derived.Below
import Derived.JoinedCond
import Derived.Carry
set_option linter.unusedSimpArgs false
set_option linter.unusedVariables false
namespace Go.DS
open Go Go.Proofs
set_option maxRecDepth 100000
set_option linter.unusedVariables false
set_option linter.unusedSimpArgs false
def cd8 : Cd := .seq (R [c0 6 (.new false (.s 1)), c0 8 (.new false (.s 3)), c0 9 (.new false (.s 4)), cb 10 (.mv (.c (kb false)))] [0, 2, 6, 8, 9, 15]) (.seq (R [cb 17 (.call none (.c (kf 11)) []), cb 11 (.tk (.s 17))] [0, 2, 6, 8, 9, 11, 15]) (.seq (.seq (R [cb 18 (.mv (.s 11)), cb 19 (.un .not (.s 18))] [0, 2, 6, 8, 9, 11, 15, 19]) (.ite (.s 19) (.seq (R [cb 10 (.mv (.c (kb false)))] [6, 8, 9, 10, 15]) (.ret)) (.skip))) (.seq (.seq (R [c0 20 (.mv (.s 2)), cb 21 (.call none (.c (kf 12)) [(.s 20)]), cb 22 (.mv (.s 21)), cg 23 22 false (.ld true 27 (.s 8)), cg 24 22 false (.ld true 27 (.s 9)), cg 25 22 false (.bsl 27 [(.s 23), (.s 24)]), ch 26 22 false (.call none (.c (kf 12)) [(.s 25)]), cb 27 (.pick (.s 22) (.c (kb true)) (.s 26)), cb 28 (.mv (.s 27)), cg 29 28 false (.mov 1 (.s 6)), cg 30 28 false (.ld false 3 (.s 29)), cg 31 28 false (.len 1 (.s 30)), ch 32 28 false (.bin .gtr .any (.s 31) (.c (ki .i64 40))), cb 33 (.pick (.s 28) (.c (kb true)) (.s 32))] [0, 2, 6, 8, 9, 11, 15, 33]) (.ite (.s 33) (.seq (R [cb 34 (.mv (.s 11)), cb 10 (.mv (.s 34))] [6, 8, 9, 10, 15]) (.ret)) (.skip))) (.seq (R [c0 35 (.mv (.s 0)), c0 36 (.ld true 2 (.s 6)), c0 37 (.call none (.c (kf 13)) [(.s 35), (.s 36)]), c0 12 (.tk (.s 37))] [2, 6, 8, 9, 11, 12, 15]) (.seq (.seq (R [c0 13 (.tk (.c (ki .i64 0)))] [2, 6, 8, 9, 11, 12, 13, 15]) (.block 0 (LP [2, 6, 8, 9, 11, 12, 13, 15] (.seq (.seq (R [c0 38 (.mv (.s 13)), c0 39 (.mv (.s 2)), c0 40 (.len 1 (.s 39)), cb 41 (.bin .lss .any (.s 38) (.s 40))] [2, 6, 8, 9, 11, 12, 13, 15, 41]) (.ite (.s 41) (.skip) (.exit 0))) (.seq (.block 1 (R [c0 44 (.mv (.s 12)), c0 45 (.mv (.s 2)), c0 46 (.mv (.s 13)), c0 47 (.ixp 27 (.s 45) (.s 46)), c0 48 (.ld true 27 (.s 47)), c0 49 (.call none (.c (kf 16)) [(.s 44), (.s 48)])] [2, 6, 8, 9, 11, 12, 13, 15])) (R [c0 42 (.mv (.s 13)), c0 43 (.bin .add .any (.s 42) (.c (ki .i64 1))), c0 13 (.tk (.s 43))] [2, 6, 8, 9, 11, 12, 13, 15])))))) (.seq (R [c0 50 (.mov 0 (.s 8)), cn (.st 1 (.s 50) (.c (ki .i64 5)))] [6, 8, 9, 11, 12, 15]) (.seq (R [c0 51 (.mv (.s 12)), c0 52 (.ld true 27 (.s 8)), c0 53 (.call none (.c (kf 16)) [(.s 51), (.s 52)]), c0 14 (.tk (.s 53))] [6, 8, 9, 11, 12, 14, 15]) (.seq (.seq (R (c0 54 (.mv (.s 14)) :: c0 55 (.len 1 (.s 54)) :: cb 56 (.bin .neq .any (.s 55) (.c (ki .i64 1))) :: cb 57 (.mv (.s 56)) :: cg 58 57 false (.mv (.s 14)) :: cg 59 57 false (.ixp 27 (.s 58) (.c (ki .i64 0))) :: cg 60 57 false (.mov 0 (.s 59)) :: cg 61 57 false (.ld false 1 (.s 60)) :: ch 62 57 false (.bin .neq .any (.s 61) (.c (ki .i64 6))) :: cb 63 (.pick (.s 57) (.c (kb true)) (.s 62)) :: cb 64 (.mv (.s 63)) :: cg 65 64 false (.mov 3 (.s 9)) :: cg 66 64 false (.ld true 3 (.s 65)) :: cg 67 64 false (.mov 3 (.s 8)) :: cg 68 64 false (.ld true 3 (.s 67)) :: ch 69 64 false (.bin .neq (.flat [0, 0, 0]) (.s 66) (.s 68)) :: cb 70 (.pick (.s 64) (.c (kb true)) (.s 69)) :: cb 71 (.mv (.s 70)) :: cg 72 71 false (.mov 6 (.s 9)) :: cg 73 71 false (.ld true 2 (.s 72)) :: cg 74 71 false (.mov 6 (.s 8)) :: cg 75 71 false (.ld true 2 (.s 74)) :: ch 76 71 false (.call none (.c (kf 26)) [(.s 73), (.s 75)]) :: ch 77 71 false (.un .not (.s 76)) :: cb 78 (.pick (.s 71) (.c (kb true)) (.s 77)) :: cb 79 (.mv (.s 78)) :: cg 80 79 false (.mv (.s 12)) :: cg 81 79 false (.ld true 27 (.s 9)) :: ch 82 79 false (.call none (.c (kf 15)) [(.s 80), (.s 81)]) :: ch 83 79 false (.un .not (.s 82)) :: cb 84 (.pick (.s 79) (.c (kb true)) (.s 83)) :: []) [6, 8, 9, 11, 12, 15, 84]) (.ite (.s 84) (.seq (R [cb 85 (.mv (.s 11)), cb 10 (.mv (.s 85))] [6, 8, 9, 10, 15]) (.ret)) (.skip))) (.seq (R [c0 86 (.mv (.s 12)), c0 87 (.mov 3 (.s 9)), c0 88 (.ld true 3 (.s 87)), c0 89 (.call none (.c (kf 20)) [(.s 86), (.s 88)]), c0 15 (.new false (.c (.agg [ki .i64 0, ki .i64 0, ki .i64 0, ki .i64 0, ki .i64 0, ki .i64 0, ki .i64 0, ki .i64 0, ks [], ks [], ki .i64 0, ki .i64 0, ki .i64 0, ki .i64 0, kn 3]))), cn (.st 15 (.s 15) (.s 89))] [6, 8, 9, 11, 12, 15]) (.seq (R [c0 90 (.mv (.s 12)), c0 91 (.ld true 27 (.s 9)), c0 92 (.call none (.c (kf 16)) [(.s 90), (.s 91)]), c0 16 (.tk (.s 92))] [6, 8, 9, 11, 12, 15, 16]) (.seq (.seq (R [c0 93 (.mov 0 (.s 9)), c0 94 (.ld false 1 (.s 93)), cb 95 (.bin .neq .any (.s 94) (.c (ki .i64 0))), cb 96 (.mv (.s 95)), cg 97 96 true (.mov 0 (.s 9)), cg 98 96 true (.ld false 1 (.s 97)), ch 99 96 true (.bin .neq .any (.s 98) (.c (ki .i64 2))), cb 100 (.pick (.s 96) (.s 99) (.c (kb false))), cb 101 (.mv (.s 100)), cg 102 101 true (.mov 0 (.s 9)), cg 103 101 true (.ld false 1 (.s 102)), ch 104 101 true (.bin .neq .any (.s 103) (.c (ki .i64 5))), cb 105 (.pick (.s 101) (.s 104) (.c (kb false)))] [6, 8, 9, 11, 12, 15, 16, 105]) (.ite (.s 105) (.seq (R [cb 106 (.mv (.s 11)), cb 107 (.mv (.s 106)), cg 108 107 true (.mv (.s 16)), cg 109 107 true (.len 1 (.s 108)), ch 110 107 true (.bin .eql .any (.s 109) (.c (ki .i64 0))), cb 111 (.pick (.s 107) (.s 110) (.c (kb false))), cb 10 (.mv (.s 111))] [6, 8, 9, 10, 15]) (.ret)) (.skip))) (.seq (RD (cd (some 112) true none (.mv (.s 11)) false false [11] :: cd (some 113) true none (.mv (.s 112)) false false [112] :: cd (some 114) false (some (113, true)) (.mv (.s 16)) false false [16] :: cd (some 115) false (some (113, true)) (.len 1 (.s 114)) false false [114] :: cd (some 116) true (some (113, true)) (.bin .eql .any (.s 115) (.c (ki .i64 1))) false false [115] :: cd (some 117) true none (.pick (.s 113) (.s 116) (.c (kb false))) false false [113, 116] :: cd (some 118) true none (.mv (.s 117)) false false [117] :: cd (some 119) false (some (118, true)) (.mv (.s 16)) false false [16] :: cd (some 120) false (some (118, true)) (.ixp 27 (.s 119) (.c (ki .i64 0))) false false [119] :: cd (some 121) false (some (118, true)) (.mov 0 (.s 120)) false false [120] :: cd (some 122) false (some (118, true)) (.ld false 1 (.s 121)) false false [121] :: cd (some 123) true (some (118, true)) (.bin .eql .any (.s 122) (.c (ki .i64 7))) false false [122] :: cd (some 124) true none (.pick (.s 118) (.s 123) (.c (kb false))) false false [118, 123] :: cd (some 125) true none (.mv (.s 124)) false false [124] :: cd (some 126) false (some (125, true)) (.mv (.s 16)) false false [16] :: cd (some 127) false (some (125, true)) (.ixp 27 (.s 126) (.c (ki .i64 0))) false false [126] :: cd (some 128) false (some (125, true)) (.mov 6 (.s 127)) false false [127] :: cd (some 129) false (some (125, true)) (.ld true 2 (.s 128)) false false [128] :: cd (some 130) false (some (125, true)) (.mov 6 (.s 8)) false false [8] :: cd (some 131) false (some (125, true)) (.ld true 2 (.s 130)) false false [130] :: cd (some 132) true (some (125, true)) (.bin .eql (.flat [0, 0]) (.s 129) (.s 131)) false false [129, 131] :: cd (some 133) true none (.pick (.s 125) (.s 132) (.c (kb false))) false false [125, 132] :: cd (some 134) true none (.mv (.s 133)) false false [133] :: cd (some 135) false (some (134, true)) (.ld true 15 (.s 15)) false false [15] :: cd (some 136) false (some (134, true)) (.mv (.s 12)) false false [12] :: cd (some 137) false (some (134, true)) (.mov 3 (.s 9)) false false [9] :: cd (some 138) false (some (134, true)) (.ld true 3 (.s 137)) false false [137] :: cd (some 139) false (some (134, true)) (.call none (.c (kf 20)) [(.s 136), (.s 138)]) false false [136, 138] :: cd (some 140) true (some (134, true)) (.call none (.c (kf 19)) [(.s 135), (.s 139)]) false false [135, 139] :: cd (some 141) true none (.pick (.s 134) (.s 140) (.c (kb false))) false false [134, 140] :: cd (some 10) true none (.mv (.s 141)) false false [141] :: []) [6, 8, 9, 10, 15] [30, 268]) (.ret)))))))))))))
theorem fun8 : Fun Tryz.prog cfg 8 142 cd8 [.s 10] := ⟨rfl, Tryz.f8, _, Tryz.func8, rfl, rfl, by kernel_rfl, by kernel_rfl⟩
@[go_sem] theorem ok8 : calleeOK Tryz.prog 8 = true := by kernel_rfl
@[go_sem] theorem ex8 : (cfg.ext 8).isSome = false := rfl
variable {h : DHeap}
set_option maxHeartbeats 4000000 in
theorem acceptPromise_lim (node : Int) (c : Con) (l : List Mes) (p m : Mes) : lim Tryz.prog cfg 8 [vi node, .agg [vi c.epoch, .list false 1 (vnums c.nodes)], .list false 27 (mess l), mesD p, mesD m] h = some (vb true, h) := by
  refine lim_funp fun8 rfl (by simp) (by simp [heapFree, heapFree.all, free_vnums, free_mess, free_idr, free_pes, free_pss]) rfl ?_
  delta cd8
  have w := works15_lim (h := [])
  have o1 := over15_lim (h := []) false l
  have o2 : lim Tryz.prog cfg 12 [.list false 27 [mesL p, mesL m]] [] = some (vb (overM [p, m]), []) := over15_lim (h := []) false [p, m]
  cases d1 : overM l with
  | true => rw [d1] at o1; simp -implicitDefEqProofs -dsimp (maxSteps := 300000) only [go_sem, w, o1]
  | false =>
  rw [d1] at o1
  cases d2 : overM [p, m] with
  | true => rw [d2] at o2; simp -implicitDefEqProofs -dsimp (maxSteps := 300000) only [go_sem, w, o1, o2]
  | false =>
  rw [d2] at o2
  by_cases d3 : 40 < c.nodes.length
  · have d3' : (40 : Int) < (c.nodes.length : Int) := by omega
    simp -implicitDefEqProofs -dsimp (maxSteps := 300000) only [go_sem, w, o1, o2, d3']
  have d3' : ¬ (40 : Int) < (c.nodes.length : Int) := by omega
  obtain ⟨hl, hl2⟩ := overM_ok d1
  have hp : MesOK p := (overM_ok d2).2 p (by simp)
  have hm : MesOK m := (overM_ok d2).2 m (by simp)
  have n1 := newN_lim node c (by omega)
  simp -implicitDefEqProofs -dsimp (maxSteps := 300000) only [go_sem, w, o1, o2, d3', n1]
  have O : ∀ k, k ≤ 40 → BkOK 40 (hearAll ⟨node, c, []⟩ (l.take k)) := fun k hk =>
    (hearAll_ok (bkOK_new node c 0) (l.take k) fun x hx => hl2 x (List.mem_of_mem_take hx)).mono (by rw [List.length_take]; omega)
  have C : ∀ k, (hearAll ⟨node, c, []⟩ (l.take k)).con = c := fun k => (hearAll_con ⟨node, c, []⟩ (l.take k)).1
  refine wp_for (σ := Nat) (fun k => [(2, .list false 27 (mess l)), (6, .box [vi c.epoch, .list false 1 (vnums c.nodes)]), (8, .box (mesL p)), (9, .box (mesL m)), (11, vb true), (12, .ptr 1 0), (13, vi (k : Nat)), (15, .junk)]) (fun k => HN (hearAll ⟨node, c, []⟩ (l.take k))) (fun k => l.length - k) (fun k => k ≤ l.length) 0 (Nat.zero_le _) rfl rfl ?_
  rintro k hk N hN
  by_cases hlt : k < l.length
  · have h1 : (k : Int) < (l.length : Int) := by omega
    have q := fun N => mess_at hlt N
    obtain ⟨o, e⟩ := hearN_lim (O k (by omega)) (by omega) (by rw [C]; omega) l[k] (hl2 _ (List.getElem_mem hlt))
    have hs : hearAll ⟨node, c, []⟩ (l.take (k + 1)) = (hearB (hearAll ⟨node, c, []⟩ (l.take k)) l[k]).2 := by rw [List.take_succ_eq_append_getElem hlt, hearAll_snoc]
    rw [← hs] at e
    simp -implicitDefEqProofs -dsimp (maxSteps := 300000) only [go_sem, ↓q, h1, e]
    refine hN (k + 1) _ (by omega) (by omega) ?_
    simp -implicitDefEqProofs -dsimp only [go_sem, wrap_succ (show k < 9223372036854775807 by omega)]
  · have h1 : ¬ (k : Int) < (l.length : Int) := by omega
    have Ok := O k (by omega)
    have Ck := C k
    generalize hearAll ⟨node, c, []⟩ (l.take k) = bk at Ok Ck
    clear hN hk hl2 O C n1 o1 o2 w d1 d2 d3'
    have hp' : MesOK { p with kind := 5 } := ⟨hp.path, hp.deps⟩
    obtain ⟨x1, e1⟩ := hearN_lim Ok (by omega) (by rw [Ck]; omega) { p with kind := 5 } hp'
    have O1 := hear_ok Ok hp'
    have C1 : (hearB bk { p with kind := 5 }).2.con = c := (hear_con bk { p with kind := 5 }).1.trans Ck
    have hle := hear_len bk { p with kind := 5 }
    have hpr := hear_promise (b := bk) (p := { p with kind := 5 }) (m := m) rfl
    generalize hearB bk { p with kind := 5 } = r at *
    obtain ⟨ms, b1⟩ := r
    dsimp only at e1 O1 C1 hle hpr
    have t1 := lessB_lim (h := HN b1) m.bal p.bal
    have r1 := rightN_lim (b := b1) (by rw [C1]; omega) m hm
    rcases ms with _ | ⟨o, _ | ⟨o2, ms⟩⟩
    · have z0 : (([] : List Mes).length : Int) = 0 := rfl
      cases x1 <;> simp -implicitDefEqProofs -dsimp (maxSteps := 300000) only [go_sem, h1, e1, z0]
    case cons.cons =>
      simp only [List.length_cons] at hle; omega
    have z0 : (([o] : List Mes).length : Int) = 1 := rfl
    have q0 : ∀ N, IdxP (mess [o]) (Nf (0 : Int)) N = N (mesL o) := fun N => mess_at (l := [o]) (k := 0) (by simp) N
    by_cases c1 : o.kind = 6
    case neg =>
      cases x1 <;> simp -implicitDefEqProofs -dsimp (maxSteps := 300000) only [go_sem, ↓q0, h1, e1, z0, eq_false c1]
    by_cases c2 : m.id = p.id
    case neg =>
      cases x1 <;> simp -implicitDefEqProofs -dsimp (maxSteps := 300000) only [go_sem, ↓q0, h1, e1, z0, eq_true c1, eq_false c2]
    cases c3 : lessB m.bal p.bal with
    | false =>
      rw [c3] at t1
      cases x1 <;> simp -implicitDefEqProofs -dsimp (maxSteps := 300000) only [go_sem, ↓q0, h1, e1, z0, eq_true c1, eq_true c2, t1]
    | true =>
    rw [c3] at t1
    cases c4 : rightB b1 m with
    | false =>
      rw [c4] at r1
      cases x1 <;> simp -implicitDefEqProofs -dsimp (maxSteps := 300000) only [go_sem, ↓q0, h1, e1, z0, eq_true c1, eq_true c2, t1, r1]
    | true =>
    rw [c4] at r1
    obtain ⟨q1, q2⟩ := hpr (fun x hx => by rw [List.mem_singleton.1 hx]; exact c1) rfl c2 c3 c4
    have g1 := getN_lim O1 (by omega) m.id
    have s1 := get_small O1 m.id
    have ss := same_self (h := HN b1) (getB b1 m.id) (by omega)
    obtain ⟨x2, e2⟩ := hearN_lim O1 (by omega) (by rw [C1]; omega) m hm
    cases c5 : voteB m.kind with
    | false =>
      rw [q1 c5] at e2
      generalize HN (hearB b1 m).2 = H2 at *
      have z2 : (([] : List Mes).length : Int) = 0 := rfl
      simp only [voteB, Bool.or_eq_false_iff, decide_eq_false_iff_not] at c5
      obtain ⟨⟨v1, v2⟩, v3⟩ := c5
      cases x1 <;> cases x2 <;> simp -implicitDefEqProofs -dsimp (maxSteps := 300000) only [go_sem, ↓q0, h1, e1, z0, eq_true c1, eq_true c2, t1, r1, g1, e2, z2, eq_false v1, eq_false v2, eq_false v3]
    | true =>
      rw [q2 c5] at e2
      dsimp only at e2
      have q3 : ∀ N, IdxP (mess [ansB b1 { m with bal := p.bal } 7 ins0]) (Nf (0 : Int)) N = N (mesL (ansB b1 { m with bal := p.bal } 7 ins0)) := fun N => mess_at (l := [_]) (k := 0) (by simp) N
      simp only [ansB] at q3 e2
      generalize hms : mess _ = MM at q3 e2
      have z3 : (MM.length : Int) = 1 := by rw [← hms, mess_len]; rfl
      clear hms
      simp only [voteB, Bool.or_eq_true, decide_eq_true_eq] at c5
      rcases c5 with (v | v) | v
      · cases x1 <;> cases x2 <;> simp -implicitDefEqProofs -dsimp (maxSteps := 300000) only [go_sem, wp_RD, postC_path2, Nat.reduceDiv, ↓q0, ↓q3, h1, e1, z0, eq_true c1, eq_true c2, t1, r1, g1, e2, z3, ss, eq_true v]
      · have v1 : ¬ m.kind = 0 := by omega
        cases x1 <;> cases x2 <;> simp -implicitDefEqProofs -dsimp (maxSteps := 300000) only [go_sem, wp_RD, postC_path2, Nat.reduceDiv, ↓q0, ↓q3, h1, e1, z0, eq_true c1, eq_true c2, t1, r1, g1, e2, z3, ss, eq_true v, eq_false v1]
      · have v1 : ¬ m.kind = 0 := by omega
        have v2 : ¬ m.kind = 2 := by omega
        cases x1 <;> cases x2 <;> simp -implicitDefEqProofs -dsimp (maxSteps := 300000) only [go_sem, wp_RD, postC_path2, Nat.reduceDiv, ↓q0, ↓q3, h1, e1, z0, eq_true c1, eq_true c2, t1, r1, g1, e2, z3, ss, eq_true v, eq_false v1, eq_false v2]
end Go.DS

/-
  The row AcceptPromise.
-/
namespace Go.Proofs.YtfmhhincdemhdaaGreat.acceptPromise
open Go.ChangeShapes Go.WideShapes Go.ChangeAt Go.RowKit
open Go.ChangeMaps (open_string shut_string)
open Go.DS
set_option linter.unusedVariables false
set_option linter.unusedSimpArgs false

set_option maxRecDepth 100000 in
theorem contract (H : Type) (enc : TypeId × Value → H) (W : World) (base : Nat) (args : Array Value) (ds gs : List (DataW H)) (before : List MemPlace)
    (hval0 : ∀ (j : Nat) t v, Tryz.f8.params[j]? = some t → args[j]? = some v → Value.okWide Tryz.prog W .any base t v)
    (hW : DataW.Whole enc Tryz.prog Tryz.f8.params.toList Rows.acceptPromiseSpec.vars false W args.toList ds gs before) (hk : Rows.uptoSmall H (ds ++ gs) = true) :
    Calls Tryz.prog 8 args W fun e W' => ∃ v, e = .returned v ∧ Rows.acceptPromiseSpec.post enc Tryz.prog Tryz.f8 false true false false W args v W' := by
  have hval : ∀ (j : Nat) t v, Tryz.f8.params[j]? = some t → args[j]? = some v → Value.okWide Tryz.prog W .any base t v := hval0
  have hW' := hW
  obtain ⟨p, q, hA0, hV, rfl, hfz, hnd⟩ := hW
  have hA : DataW.TrodAll enc Tryz.prog W 0 (fun _ => true) true Tryz.f8.params.toList args.toList ds p := hA0
  rw [Tryz.params8] at hA hval
  obtain ⟨v0, vs0, d0, ds0, p0, q0, hargs, rfl, rfl, h0, r0⟩ := trodAll_cons hA
  obtain ⟨v1, vs1, d1, ds1, p1, q1, rfl, rfl, rfl, h1, r1⟩ := trodAll_cons r0
  obtain ⟨v2, vs2, d2, ds2, p2, q2, rfl, rfl, rfl, h2, r2⟩ := trodAll_cons r1
  obtain ⟨v3, vs3, d3, ds3, p3, q3, rfl, rfl, rfl, h3, r3⟩ := trodAll_cons r2
  obtain ⟨v4, vs4, d4, ds4, p4, q4, rfl, rfl, rfl, h4, r4⟩ := trodAll_cons r3
  obtain ⟨rfl, rfl, rfl⟩ := trodAll_nil r4
  obtain rfl : args = #[v0, v1, v2, v3, v4] := by cases args; simp_all
  obtain ⟨rfl, rfl⟩ := trodVars_none hV
  have lt0 : ∀ x ∈ p0, x.block < W.heap.size := by obtain ⟨m, hm⟩ := h0; exact DataW.trod_lt m _ _ _ hm
  have k0 := h0
  obtain ⟨a0, rfl, rfl, rfl, y0⟩ := open_int Tryz.underlying3 (hval 0 3 v0 rfl rfl) h0
  have lt1 : ∀ x ∈ p1, x.block < W.heap.size := by obtain ⟨m, hm⟩ := h1; exact DataW.trod_lt m _ _ _ hm
  have k1 := h1
  obtain ⟨a1, y1, b1⟩ := arg_con (B := 1048575) (hval 1 24 v1 rfl rfl) h1 (by have hb := of_decide_eq_true hk; simp only [Rows.uptoBulkAll, List.append_nil, List.cons_append, List.nil_append] at hb; omega)
  have lt2 : ∀ x ∈ p2, x.block < W.heap.size := by obtain ⟨m, hm⟩ := h2; exact DataW.trod_lt m _ _ _ hm
  have k2 := h2
  obtain ⟨a2, y2, b2⟩ := arg_mess (B := 1048575) (hval 2 25 v2 rfl rfl) h2 (by have hb := of_decide_eq_true hk; simp only [Rows.uptoBulkAll, List.append_nil, List.cons_append, List.nil_append] at hb; omega)
  have lt3 : ∀ x ∈ p3, x.block < W.heap.size := by obtain ⟨m, hm⟩ := h3; exact DataW.trod_lt m _ _ _ hm
  have k3 := h3
  obtain ⟨a3, y3, b3⟩ := arg_mes (B := 1048575) (hval 3 54 v3 rfl rfl) h3 (by have hb := of_decide_eq_true hk; simp only [Rows.uptoBulkAll, List.append_nil, List.cons_append, List.nil_append] at hb; omega)
  have lt4 : ∀ x ∈ p4, x.block < W.heap.size := by obtain ⟨m, hm⟩ := h4; exact DataW.trod_lt m _ _ _ hm
  have k4 := h4
  obtain ⟨a4, y4, b4⟩ := arg_mes (B := 1048575) (hval 4 54 v4 rfl rfl) h4 (by have hb := of_decide_eq_true hk; simp only [Rows.uptoBulkAll, List.append_nil, List.cons_append, List.nil_append] at hb; omega)
  clear hA0 hval0
  have hb := of_decide_eq_true hk
  simp only [Rows.uptoBulkAll, Rows.uptoBulk, List.append_nil] at hb
  refine (Go.DS.start ext_ok (acceptPromise_lim a0 a1 a2 a3 a4) W (vs := #[.int .i64 a0, v1, v2, v3, v4]) (.cons (.sc _) (.cons (y1) (.cons (y2) (.cons (y3) (.cons (y4) (.nil _))))))).mono fun e W' ⟨he, bel⟩ => ?_
  subst he
  exact ⟨_, rfl, _, _, _, [], _, [], hW', trodAll_mk1 (shut_bool Tryz.underlying4 _), (trodAll_cons_mk (Below.trod laidOut' (by kernel_rfl) (of_decide_eq_true (by kernel_rfl)) k0 bel lt0) (trodAll_cons_mk (Below.trod laidOut' (by kernel_rfl) (of_decide_eq_true (by kernel_rfl)) k1 bel lt1) (trodAll_cons_mk (Below.trod laidOut' (by kernel_rfl) (of_decide_eq_true (by kernel_rfl)) k2 bel lt2) (trodAll_cons_mk (Below.trod laidOut' (by kernel_rfl) (of_decide_eq_true (by kernel_rfl)) k3 bel lt3) (trodAll_cons_mk (Below.trod laidOut' (by kernel_rfl) (of_decide_eq_true (by kernel_rfl)) k4 bel lt4) trodAll_mk0))))), rfl, bel.frame _, fun h => by cases h⟩

set_option maxRecDepth 100000 in
theorem lifted (os : Os) (started : os.Started) (H : Type) (enc : TypeId × Value → H) (F : Stop.Interp) :
    ReturnsInHanded {} Tryz.checked os 8 .any ((Rows.OpenSpec.upto Rows.acceptPromiseSpec).pre6 enc Tryz.prog Tryz.f8 Rows.acceptPromiseUptoRow.domain false) (((Rows.OpenSpec.upto Rows.acceptPromiseSpec).at F).post enc Tryz.prog Tryz.f8 false true false false) := by
  refine returnsInHanded_of_cond (C := Tryz.checked) (s := Rows.OpenSpec.upto Rows.acceptPromiseSpec) (k := Rows.uptoSmall) rfl own' started (by kernel_rfl) Tryz.func8
    (OpenSpec.witness (enc := enc) (C := Tryz.checked) (s := Rows.OpenSpec.upto Rows.acceptPromiseSpec) (k := Rows.uptoSmall) rfl false ⟨#[], #[.int .i64 0, .agg #[.int .i64 0, .slice none 0 0], .slice none 0 0, .agg #[.int .i64 0, .int .i64 0, .int .i64 0, .int .i64 0, .int .i64 0, .int .i64 0, .int .i64 0, .int .i64 0, .int .i64 0, .int .i64 0, .int .i64 0, .int .i64 0, .int .i64 0, .int .i64 0, .int .i64 0, .int .i64 0, .string ByteArray.empty, .string ByteArray.empty, .int .i64 0, .int .i64 0, .int .i64 0, .int .i64 0, .slice none 0 0, .int .i64 0, .slice none 0 0, .slice none 0 0, .slice none 0 0], .agg #[.int .i64 0, .int .i64 0, .int .i64 0, .int .i64 0, .int .i64 0, .int .i64 0, .int .i64 0, .int .i64 0, .int .i64 0, .int .i64 0, .int .i64 0, .int .i64 0, .int .i64 0, .int .i64 0, .int .i64 0, .int .i64 0, .string ByteArray.empty, .string ByteArray.empty, .int .i64 0, .int .i64 0, .int .i64 0, .int .i64 0, .slice none 0 0, .int .i64 0, .slice none 0 0, .slice none 0 0, .slice none 0 0]], []⟩ 8 (by kernel_rfl) (by kernel_rfl) (by kernel_rfl)
      (x := ([.lit (.int .i64 0), .agg [.lit (.int .i64 0), .nil], .nil, .agg [.lit (.int .i64 0), .lit (.int .i64 0), .lit (.int .i64 0), .agg [.lit (.int .i64 0), .lit (.int .i64 0), .lit (.int .i64 0)], .agg [.lit (.int .i64 0), .lit (.int .i64 0)], .agg [.lit (.int .i64 0), .agg [.lit (.int .i64 0), .lit (.int .i64 0)], .agg [.lit (.int .i64 0), .lit (.int .i64 0)], .agg [.lit (.int .i64 0), .lit (.int .i64 0), .lit (.int .i64 0), .lit (.string []), .lit (.string []), .lit (.int .i64 0), .lit (.int .i64 0), .lit (.int .i64 0)], .agg [.lit (.int .i64 0), .nil]], .agg [.agg [.lit (.int .i64 0), .nil], .nil, .nil]], .agg [.lit (.int .i64 0), .lit (.int .i64 0), .lit (.int .i64 0), .agg [.lit (.int .i64 0), .lit (.int .i64 0), .lit (.int .i64 0)], .agg [.lit (.int .i64 0), .lit (.int .i64 0)], .agg [.lit (.int .i64 0), .agg [.lit (.int .i64 0), .lit (.int .i64 0)], .agg [.lit (.int .i64 0), .lit (.int .i64 0)], .agg [.lit (.int .i64 0), .lit (.int .i64 0), .lit (.int .i64 0), .lit (.string []), .lit (.string []), .lit (.int .i64 0), .lit (.int .i64 0), .lit (.int .i64 0)], .agg [.lit (.int .i64 0), .nil]], .agg [.agg [.lit (.int .i64 0), .nil], .nil, .nil]]], [], [])) (by kernel_rfl) rfl (by kernel_rfl)) ?_
  intro W base args ds gs before hval hW _ hk _
  exact contract H enc W base args ds gs before hval hW hk

theorem over : Rows.acceptPromiseUptoRow.holds Tryz.pinned (Rows.OpenSpec.upto Rows.acceptPromiseSpec) :=
  OpenClaim.holds_of_cond 8 Tryz.f8 rfl rfl rfl rfl rfl rfl rfl ⟨rfl, rfl, rfl, rfl, rfl⟩ rfl rfl rfl rfl rfl (by kernel_rfl) Tryz.func8 (by kernel_rfl)
    (of_decide_eq_true (by kernel_rfl)) (by unfold Func.isWrapper; first | (rw [if_pos (by decide +kernel)]; kernel_rfl) | (rw [if_neg (by decide +kernel)]; exact ⟨rfl, rfl⟩))
    (fun os started H enc _ F => lifted os started H enc F)

theorem proved : Rows.AcceptPromiseUptoSaid := over
#print axioms proved
end Go.Proofs.YtfmhhincdemhdaaGreat.acceptPromise
namespace Go.Proofs.YtfmhhincdemhdaaGreat
theorem acceptPromise_holds : Rows.AcceptPromiseUptoSaid := acceptPromise.proved
end Go.Proofs.YtfmhhincdemhdaaGreat
