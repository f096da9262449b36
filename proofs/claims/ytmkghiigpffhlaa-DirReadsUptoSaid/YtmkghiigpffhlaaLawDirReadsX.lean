/-
  Walks: the law DirReads.
-/
import Derived.Test.YtmkghiigpffhlaaH9
import Derived.WalkKit
import Derived.ProofKit
import Derived.OpenShut
import Derived.ShutString
import Derived.ChangeOld
import Derived.Below
import Derived.JoinedCond
import Derived.Carry
set_option linter.unusedSimpArgs false
set_option linter.unusedVariables false
namespace Go.DS
open Go Go.Proofs
set_option maxRecDepth 100000
set_option linter.unusedVariables false
set_option linter.unusedSimpArgs false
def cd5 : Cd := .seq (R [c0 3 (.new false (.s 1)), cb 4 (.tk (.c (kb false)))] [0, 3, 9, 10, 12]) (.seq (R [cb 13 (.call none (.c (kf 12)) []), cb 5 (.tk (.s 13))] [0, 3, 5, 9, 10, 12]) (.seq (.seq (R [cb 14 (.mv (.s 5)), cb 15 (.un .not (.s 14))] [0, 3, 5, 9, 10, 12, 15]) (.ite (.s 15) (.seq (R [cb 4 (.tk (.c (kb false)))] [3, 4, 9, 10, 12]) (.ret)) (.skip))) (.seq (.seq (R [c0 16 (.mv (.s 0)), cb 17 (.call none (.c (kf 13)) [(.s 16)]), cb 18 (.mv (.s 17)), cg 19 18 false (.ld true 8 (.s 3)), cg 20 18 false (.bsl 8 [(.s 19)]), ch 21 18 false (.call none (.c (kf 13)) [(.s 20)]), cb 22 (.pick (.s 18) (.c (kb true)) (.s 21))] [0, 3, 5, 9, 10, 12, 22]) (.ite (.s 22) (.seq (R [cb 23 (.tk (.s 5)), cb 4 (.tk (.s 23))] [3, 4, 9, 10, 12]) (.ret)) (.skip))) (.seq (R [c0 24 (.call none (.c (kf 23)) []), c0 6 (.tk (.s 24))] [0, 3, 5, 6, 9, 10, 12]) (.seq (.seq (R [c0 7 (.tk (.c (ki .i64 0)))] [0, 3, 5, 6, 7, 9, 10, 12]) (.block 0 (LP [0, 3, 5, 6, 7, 9, 10, 12] (.seq (.seq (R [c0 25 (.mv (.s 7)), c0 26 (.mv (.s 0)), c0 27 (.len 1 (.s 26)), cb 28 (.bin .lss .any (.s 25) (.s 27))] [0, 3, 5, 6, 7, 9, 10, 12, 28]) (.ite (.s 28) (.skip) (.exit 0))) (.seq (.block 1 (R [c0 31 (.mv (.s 6)), c0 32 (.mv (.s 0)), c0 33 (.mv (.s 7)), c0 34 (.ixp 8 (.s 32) (.s 33)), c0 35 (.ld true 8 (.s 34)), c0 36 (.call none (.c (kf 17)) [(.s 31), (.s 35)])] [0, 3, 5, 6, 7, 9, 10, 12])) (R [c0 29 (.mv (.s 7)), c0 30 (.bin .add .any (.s 29) (.c (ki .i64 1))), c0 7 (.tk (.s 30))] [0, 3, 5, 6, 7, 9, 10, 12])))))) (.seq (R [c0 37 (.mv (.s 6)), c0 38 (.call none (.c (kf 22)) [(.s 37)]), c0 8 (.tk (.s 38))] [3, 5, 6, 8, 9, 10, 12]) (.seq (R [c0 39 (.mv (.s 6)), c0 40 (.mov 3 (.s 3)), c0 41 (.ld false 1 (.s 40)), c0 42 (.bld [ki .i64 0, ki .i64 0, ki .i64 0, ks [], ks [], ki .i64 0, ki .i64 0, ki .i64 0] [(2, 1, (.c (ki .i64 4))), (3, 1, (.s 41))]), c0 43 (.call none (.c (kf 17)) [(.s 39), (.s 42)]), c0 9 (.new false (.c (.agg [ki .i64 0, ks [], ki .i64 0, kn 1]))), cn (.st 4 (.s 9) (.s 43))] [3, 5, 6, 8, 9, 10, 12]) (.seq (R [c0 44 (.mv (.s 6)), c0 45 (.ld true 8 (.s 3)), c0 46 (.call none (.c (kf 17)) [(.s 44), (.s 45)]), c0 10 (.new false (.c (.agg [ki .i64 0, ks [], ki .i64 0, kn 1]))), cn (.st 4 (.s 10) (.s 46))] [3, 5, 6, 8, 9, 10, 12]) (.seq (R [c0 47 (.mv (.s 6)), c0 48 (.call none (.c (kf 22)) [(.s 47)]), c0 11 (.tk (.s 48))] [3, 5, 6, 8, 9, 10, 11, 12]) (.seq (R [c0 49 (.mv (.s 6)), c0 50 (.mov 3 (.s 3)), c0 51 (.ld false 1 (.s 50)), c0 52 (.bld [ki .i64 0, ki .i64 0, ki .i64 0, ks [], ks [], ki .i64 0, ki .i64 0, ki .i64 0] [(2, 1, (.c (ki .i64 4))), (3, 1, (.s 51))]), c0 53 (.call none (.c (kf 17)) [(.s 49), (.s 52)]), c0 12 (.new false (.c (.agg [ki .i64 0, ks [], ki .i64 0, kn 1]))), cn (.st 4 (.s 12) (.s 53))] [3, 5, 8, 9, 10, 11, 12]) (.seq (.seq (R [c0 54 (.mov 0 (.s 10)), c0 55 (.ld false 1 (.s 54)), cb 56 (.bin .neq .any (.s 55) (.c (ki .i64 0))), cb 57 (.mv (.s 56)), cg 58 57 false (.mov 2 (.s 3)), cg 59 57 false (.ld false 1 (.s 58)), ch 60 57 false (.bin .eql .any (.s 59) (.c (ki .i64 4))), cb 61 (.pick (.s 57) (.c (kb true)) (.s 60)), cb 62 (.mv (.s 61)), cg 63 62 false (.mov 2 (.s 3)), cg 64 62 false (.ld false 1 (.s 63)), ch 65 62 false (.bin .eql .any (.s 64) (.c (ki .i64 5))), cb 66 (.pick (.s 62) (.c (kb true)) (.s 65))] [3, 5, 8, 9, 10, 11, 12, 66]) (.ite (.s 66) (.seq (R [cb 67 (.mv (.s 5)), cb 68 (.mv (.s 67)), cg 69 68 true (.mv (.s 8)), cg 70 68 true (.mv (.s 11)), ch 71 68 true (.call none (.c (kf 21)) [(.s 69), (.s 70)]), cb 72 (.pick (.s 68) (.s 71) (.c (kb false))), cb 4 (.tk (.s 72))] [3, 4, 9, 10, 12]) (.ret)) (.skip))) (.seq (.seq (R [c0 73 (.mov 2 (.s 3)), c0 74 (.ld false 1 (.s 73))] [3, 5, 8, 9, 10, 11, 12, 74]) (.block 2 (.seq (R [cb 76 (.bin .eql .any (.s 74) (.c (ki .i64 1))), cb 75 (.tk (.s 76))] [3, 5, 8, 9, 10, 11, 12, 74, 75]) (.ite (.s 75) (.seq (R (cb 77 (.mv (.s 5)) :: cb 78 (.mv (.s 77)) :: cg 79 78 true (.mov 0 (.s 9)) :: cg 80 78 true (.ld false 1 (.s 79)) :: ch 81 78 true (.bin .eql .any (.s 80) (.c (ki .i64 2))) :: cb 82 (.pick (.s 78) (.s 81) (.c (kb false))) :: cb 83 (.mv (.s 82)) :: cg 84 83 true (.mov 1 (.s 12)) :: cg 85 83 true (.ld false 1 (.s 84)) :: cg 86 83 true (.mov 4 (.s 3)) :: cg 87 83 true (.ld false 1 (.s 86)) :: ch 88 83 true (.bin .eql .any (.s 85) (.s 87)) :: cb 89 (.pick (.s 83) (.s 88) (.c (kb false))) :: cb 90 (.mv (.s 89)) :: cg 91 90 true (.mov 2 (.s 12)) :: cg 92 90 true (.ld false 1 (.s 91)) :: ch 93 90 true (.bin .eql .any (.s 92) (.c (ki .i64 1))) :: cb 94 (.pick (.s 90) (.s 93) (.c (kb false))) :: cb 95 (.mv (.s 94)) :: cg 96 95 true (.mv (.s 11)) :: cg 97 95 true (.len 1 (.s 96)) :: cg 98 95 true (.mv (.s 8)) :: cg 99 95 true (.len 1 (.s 98)) :: cg 100 95 true (.bin .add .any (.s 99) (.c (ki .i64 1))) :: ch 101 95 true (.bin .eql .any (.s 97) (.s 100)) :: cb 102 (.pick (.s 95) (.s 101) (.c (kb false))) :: cb 4 (.tk (.s 102)) :: []) [3, 4, 9, 10, 12]) (.ret)) (.seq (R [cb 104 (.bin .eql .any (.s 74) (.c (ki .i64 2))), cb 103 (.tk (.s 104))] [3, 5, 8, 9, 10, 11, 12, 103]) (.ite (.s 103) (.seq (R [cb 105 (.mv (.s 5)), cb 106 (.mv (.s 105)), cg 107 106 true (.mov 0 (.s 9)), cg 108 106 true (.ld false 1 (.s 107)), ch 109 106 true (.bin .eql .any (.s 108) (.c (ki .i64 0))), cb 110 (.pick (.s 106) (.s 109) (.c (kb false))), cb 111 (.mv (.s 110)), cg 112 111 true (.mov 0 (.s 12)), cg 113 111 true (.ld false 1 (.s 112)), ch 114 111 true (.bin .eql .any (.s 113) (.c (ki .i64 2))), cb 115 (.pick (.s 111) (.s 114) (.c (kb false))), cb 116 (.mv (.s 115)), cg 117 116 true (.mv (.s 11)), cg 118 116 true (.len 1 (.s 117)), cg 119 116 true (.mv (.s 8)), cg 120 116 true (.len 1 (.s 119)), cg 121 116 true (.bin .sub .any (.s 120) (.c (ki .i64 1))), ch 122 116 true (.bin .eql .any (.s 118) (.s 121)), cb 123 (.pick (.s 116) (.s 122) (.c (kb false))), cb 4 (.tk (.s 123))] [3, 4, 9, 10, 12]) (.ret)) (.skip))))))) (.seq (R (cb 124 (.mv (.s 5)) :: cb 125 (.mv (.s 124)) :: cg 126 125 true (.mov 1 (.s 12)) :: cg 127 125 true (.ld false 1 (.s 126)) :: cg 128 125 true (.mov 4 (.s 3)) :: cg 129 125 true (.ld false 1 (.s 128)) :: ch 130 125 true (.bin .eql .any (.s 127) (.s 129)) :: cb 131 (.pick (.s 125) (.s 130) (.c (kb false))) :: cb 132 (.mv (.s 131)) :: cg 133 132 true (.mov 2 (.s 12)) :: cg 134 132 true (.ld false 1 (.s 133)) :: cg 135 132 true (.mov 2 (.s 9)) :: cg 136 132 true (.ld false 1 (.s 135)) :: cg 137 132 true (.bin .add .any (.s 136) (.c (ki .i64 1))) :: ch 138 132 true (.bin .eql .any (.s 134) (.s 137)) :: cb 139 (.pick (.s 132) (.s 138) (.c (kb false))) :: cb 140 (.mv (.s 139)) :: cg 141 140 true (.mov 2 (.s 10)) :: cg 142 140 true (.ld false 1 (.s 141)) :: cg 143 140 true (.mov 2 (.s 12)) :: cg 144 140 true (.ld false 1 (.s 143)) :: ch 145 140 true (.bin .eql .any (.s 142) (.s 144)) :: cb 146 (.pick (.s 140) (.s 145) (.c (kb false))) :: cb 147 (.mv (.s 146)) :: cg 148 147 true (.mv (.s 11)) :: cg 149 147 true (.len 1 (.s 148)) :: cg 150 147 true (.mv (.s 8)) :: cg 151 147 true (.len 1 (.s 150)) :: ch 152 147 true (.bin .eql .any (.s 149) (.s 151)) :: cb 153 (.pick (.s 147) (.s 152) (.c (kb false))) :: cb 4 (.tk (.s 153)) :: []) [3, 4, 9, 10, 12]) (.ret))))))))))))))
theorem fun5 : Fun Try.prog cfg 5 154 cd5 [.s 4] := ⟨rfl, Try.f5, _, Try.func5, rfl, rfl, by kernel_rfl, by kernel_rfl⟩
@[go_sem] theorem ok5 : calleeOK Try.prog 5 = true := by kernel_rfl
@[go_sem] theorem ex5 : (cfg.ext 5).isSome = false := rfl
variable {h : DHeap}
theorem getR_names' (es : Dir) (p : Str) : (getR es p).names.length ≤ 1048576 := getR_names es p
set_option maxHeartbeats 2000000 in
theorem dirReads_lim (own : Bool) (l : List Cmd) (c : Cmd) (hl : l.length ≤ 1048576) (hs : ∀ x ∈ l, x.path.length ≤ 1048576) (hc : c.path.length ≤ 1048576) :
    lim Try.prog cfg 5 [.list own 8 (cms l), cmdD c] h = some (vb true, h) := by
  obtain ⟨cl, sq, op, path, value, ver, ca, cb⟩ := c
  refine lim_funp fun5 rfl (by simp) (by simp [heapFree, heapFree.all, free_cms]) rfl ?_
  delta cd5
  have w7 := works7_lim (h := [])
  have o1 := over_lim (h := []) false l (by omega)
  have o2 := over_lim (h := []) false [⟨cl, sq, op, path, value, ver, ca, cb⟩] (by simp)
  simp only [cms, List.map_cons, List.map_nil] at o2
  have n0 := new0
  cases e1 : overP l with
  | true =>
    rw [e1] at o1
    simp -implicitDefEqProofs -dsimp only [go_sem, wp_RD, w7, o1, o2, n0]
  | false =>
  rw [e1] at o1
  cases e2 : overP [⟨cl, sq, op, path, value, ver, ca, cb⟩] with
  | true =>
    rw [e2] at o2
    simp -implicitDefEqProofs -dsimp only [go_sem, wp_RD, w7, o1, o2, n0]
  | false =>
  rw [e2] at o2
  simp -implicitDefEqProofs -dsimp only [go_sem, wp_RD, w7, o1, o2, n0]
  have O := fun k => doAll_ok (dirOK_nil 0 0) (l.take k)
  have hq : l.length ≤ 60 := Decidable.byContradiction fun h1 => by simp [overP, Nat.not_le.1 h1] at e1
  simp only at hc
  refine wp_for (σ := Nat) (fun k => [(0, .list false 8 (cms l)), (3, .box [vi cl, vi sq, vi op, vs path, vs value, vi ver, vi ca, vi cb]), (5, vb true), (6, .ptr 1 0), (7, vi (k : Nat)), (9, .junk), (10, .junk), (12, .junk)]) (fun k => hD (doAll [] (l.take k))) (fun k => l.length - k) (fun k => k ≤ l.length) 0 (Nat.zero_le _) rfl rfl ?_
  rintro k hk N hN
  have Ok := O k
  have hln : (l.take k).length = k := by rw [List.length_take]; omega
  rw [hln] at Ok
  by_cases hlt : k < l.length
  · have h1 : (k : Int) < (l.length : Int) := by omega
    have a1 := applyD Ok (by omega) (by omega) l[k] (by have := hs _ (List.getElem_mem hlt); omega)
    have hd : doAll [] (l.take (k + 1)) = (applyP (doAll [] (l.take k)) l[k]).2 := by rw [List.take_succ_eq_append_getElem hlt, doAll_snoc]
    simp -implicitDefEqProofs -dsimp only [go_sem, h1, hlt, a1]
    rw [← hd]
    refine hN (k + 1) _ (by omega) (by omega) ?_
    simp -implicitDefEqProofs -dsimp only [go_sem, wrap_succ (show k < 9223372036854775807 by omega)]
  · have h1 : ¬ (k : Int) < (l.length : Int) := by omega
    generalize hes : doAll [] (l.take k) = es at *
    have Ok1 := applyP_ok Ok ⟨cl, sq, op, path, value, ver, ca, cb⟩
    have g1 := applyD Ok (by omega) (by omega) (getC path) (show path.length ≤ 1099511627776 by omega)
    have g2 := applyD Ok (by omega) (by omega) ⟨cl, sq, op, path, value, ver, ca, cb⟩ (show path.length ≤ 1099511627776 by omega)
    have g3 := applyD Ok1 (by omega) (by omega) (getC path) (show path.length ≤ 1099511627776 by omega)
    have f1 := entries_lim (atD es) Ok (hbD es) (by omega)
    have f2 := entries_lim (atD (applyP es ⟨cl, sq, op, path, value, ver, ca, cb⟩).2) Ok1 (hbD _) (by omega)
    have len1 := entries_len es
    have len2 := entries_len (applyP es ⟨cl, sq, op, path, value, ver, ca, cb⟩).2
    have hle := Ok.len
    have rp := reads_plain Ok ⟨cl, sq, op, path, value, ver, ca, cb⟩
    rw [apply_get] at g1 g3
    simp only [getC] at g1 g3 rp
    generalize applyP es ⟨cl, sq, op, path, value, ver, ca, cb⟩ = RR at *
    obtain ⟨⟨re, rv, rn, rl⟩, es'⟩ := RR
    simp only at g1 g2 g3 f1 f2 len1 len2 rp Ok1
    generalize hX : getR es path = X at *
    generalize hY : getR es' path = Y at *
    obtain ⟨xe, xv, xn, xl⟩ := X
    obtain ⟨ye, yv, yn, yl⟩ := Y
    simp only at rp g1 g3
    rcases rp with ⟨q1, q2⟩ | ⟨q1, q2, q3, q4, q5, q6⟩ | ⟨q1, q2, q3, q4, q5⟩ | ⟨q1, q2, q3, q4, q5, q6, q7, q8⟩
    · subst q1
      have rr := row_lim (h := hD es') false false (entriesP es') (entriesP es') (by omega)
      rw [decide_eq_true rfl] at rr
      rcases q2 with q2 | q2 | q2
      · simp -implicitDefEqProofs -dsimp only [go_sem, wp_RD, h1, g1, g2, g3, f1, rr, q2]
      · subst q2
        by_cases q3 : re = 0 <;> simp -implicitDefEqProofs -dsimp only [go_sem, wp_RD, h1, g1, g2, g3, f1, rr, q3]
      · subst q2
        by_cases q3 : re = 0 <;> simp -implicitDefEqProofs -dsimp only [go_sem, wp_RD, h1, g1, g2, g3, f1, rr, q3]
    · subst q1 q2 q3 q4 q5
      have hw : IntKind.wrap .i64 ((es.length : Int) + 1) = (es'.length : Int) := by rw [wrap64 (by omega) (by omega)]; omega
      simp -implicitDefEqProofs -dsimp only [go_sem, wp_RD, h1, g1, g2, g3, f1, f2, len1, len2, hw]
    · subst q1 q2 q3 q4
      have hw : IntKind.wrap .i64 ((es.length : Int) - 1) = (es'.length : Int) := by rw [wrap64 (by omega) (by omega)]; omega
      simp -implicitDefEqProofs -dsimp only [go_sem, wp_RD, h1, g1, g2, g3, f1, f2, len1, len2, hw]
    · subst q1 q3 q4 q5
      have hw : IntKind.wrap .i64 (xn + 1) = xn + 1 := wrap64 (by omega) (by omega)
      rcases q2 with q2 | q2
      · subst q2
        simp -implicitDefEqProofs -dsimp only [go_sem, wp_RD, h1, g1, g2, g3, f1, f2, len1, len2, hw, q6]
      · subst q2
        simp -implicitDefEqProofs -dsimp only [go_sem, wp_RD, h1, g1, g2, g3, f1, f2, len1, len2, hw, q6]
end Go.DS

/-
  The row DirReads.
-/
namespace Go.Proofs.Ytmkghiigpffhlaa.dirReads
open Go.ChangeShapes Go.WideShapes Go.ChangeAt Go.RowKit
open Go.ChangeMaps (open_string shut_string)
open Go.DS
set_option linter.unusedVariables false
set_option linter.unusedSimpArgs false

set_option maxRecDepth 100000 in
theorem contract (H : Type) (enc : TypeId × Value → H) (W : World) (base : Nat) (args : Array Value) (ds gs : List (DataW H)) (before : List MemPlace)
    (hval0 : ∀ (j : Nat) t v, Try.f5.params[j]? = some t → args[j]? = some v → Value.okWide Try.prog W .any base t v)
    (hW : DataW.Whole enc Try.prog Try.f5.params.toList Rows.dirReadsSpec.vars false W args.toList ds gs before) (hk : Rows.uptoSmall H (ds ++ gs) = true) :
    Calls Try.prog 5 args W fun e W' => ∃ v, e = .returned v ∧ Rows.dirReadsSpec.post enc Try.prog Try.f5 false true false false W args v W' := by
  have hval : ∀ (j : Nat) t v, Try.f5.params[j]? = some t → args[j]? = some v → Value.okWide Try.prog W .any base t v := hval0
  have hW' := hW
  obtain ⟨p, q, hA0, hV, rfl, hfz, hnd⟩ := hW
  have hA : DataW.TrodAll enc Try.prog W 0 (fun _ => true) true Try.f5.params.toList args.toList ds p := hA0
  rw [Try.params5] at hA hval
  obtain ⟨v0, vs0, d0, ds0, p0, q0, hargs, rfl, rfl, h0, r0⟩ := trodAll_cons hA
  obtain ⟨v1, vs1, d1, ds1, p1, q1, rfl, rfl, rfl, h1, r1⟩ := trodAll_cons r0
  obtain ⟨rfl, rfl, rfl⟩ := trodAll_nil r1
  obtain rfl : args = #[v0, v1] := by cases args; simp_all
  obtain ⟨rfl, rfl⟩ := trodVars_none hV
  have lt0 : ∀ x ∈ p0, x.block < W.heap.size := by obtain ⟨m, hm⟩ := h0; exact DataW.trod_lt m _ _ _ hm
  have k0 := h0
  obtain ⟨a0, y0, b0⟩ := arg_cmds (B := 1048575) (hval 0 23 v0 rfl rfl) h0 (by have hb := of_decide_eq_true hk; simp only [Rows.uptoBulkAll, List.append_nil, List.cons_append, List.nil_append] at hb; omega)
  have lt1 : ∀ x ∈ p1, x.block < W.heap.size := by obtain ⟨m, hm⟩ := h1; exact DataW.trod_lt m _ _ _ hm
  have k1 := h1
  obtain ⟨a1, y1, b1⟩ := arg_cmd (B := 1048575) (hval 1 40 v1 rfl rfl) h1 (by have hb := of_decide_eq_true hk; simp only [Rows.uptoBulkAll, List.append_nil, List.cons_append, List.nil_append] at hb; omega)
  clear hA0 hval0
  have hb := of_decide_eq_true hk
  simp only [Rows.uptoBulkAll, Rows.uptoBulk, List.append_nil] at hb
  refine (Go.DS.start ext_ok (dirReads_lim false a0 a1 (by have := b0.1; omega) (fun x hx => by have := (b0.2 x hx).path; omega) (by have := b1.path; omega)) W (vs := #[v0, v1]) (.cons (y0) (.cons (y1) (.nil _)))).mono fun e W' ⟨he, bel⟩ => ?_
  subst he
  exact ⟨_, rfl, _, _, _, [], _, [], hW', trodAll_mk1 (shut_bool Try.underlying4 _), (trodAll_cons_mk (Below.trod laidOut' (by kernel_rfl) (of_decide_eq_true (by kernel_rfl)) k0 bel lt0) (trodAll_cons_mk (Below.trod laidOut' (by kernel_rfl) (of_decide_eq_true (by kernel_rfl)) k1 bel lt1) trodAll_mk0)), rfl, bel.frame _, fun h => by cases h⟩

set_option maxRecDepth 100000 in
theorem lifted (os : Os) (started : os.Started) (H : Type) (enc : TypeId × Value → H) (F : Stop.Interp) :
    ReturnsInHanded {} Try.checked os 5 .any ((Rows.OpenSpec.upto Rows.dirReadsSpec).pre6 enc Try.prog Try.f5 Rows.dirReadsUptoRow.domain false) (((Rows.OpenSpec.upto Rows.dirReadsSpec).at F).post enc Try.prog Try.f5 false true false false) := by
  refine returnsInHanded_of_cond (C := Try.checked) (s := Rows.OpenSpec.upto Rows.dirReadsSpec) (k := Rows.uptoSmall) rfl own' started (by kernel_rfl) Try.func5
    (OpenSpec.witness (enc := enc) (C := Try.checked) (s := Rows.OpenSpec.upto Rows.dirReadsSpec) (k := Rows.uptoSmall) rfl false ⟨#[], #[.slice none 0 0, .agg #[.int .i64 0, .int .i64 0, .int .i64 0, .string ByteArray.empty, .string ByteArray.empty, .int .i64 0, .int .i64 0, .int .i64 0]], []⟩ 8 (by kernel_rfl) (by kernel_rfl) (by kernel_rfl)
      (x := ([.nil, .agg [.lit (.int .i64 0), .lit (.int .i64 0), .lit (.int .i64 0), .lit (.string []), .lit (.string []), .lit (.int .i64 0), .lit (.int .i64 0), .lit (.int .i64 0)]], [], [])) (by kernel_rfl) rfl (by kernel_rfl)) ?_
  intro W base args ds gs before hval hW _ hk _
  exact contract H enc W base args ds gs before hval hW hk

theorem over : Rows.dirReadsUptoRow.holds Try.pinned (Rows.OpenSpec.upto Rows.dirReadsSpec) :=
  OpenClaim.holds_of_cond 5 Try.f5 rfl rfl rfl rfl rfl rfl rfl ⟨rfl, rfl, rfl, rfl, rfl⟩ rfl rfl rfl rfl rfl (by kernel_rfl) Try.func5 (by kernel_rfl)
    (of_decide_eq_true (by kernel_rfl)) (by unfold Func.isWrapper; first | (rw [if_pos (by decide +kernel)]; kernel_rfl) | (rw [if_neg (by decide +kernel)]; exact ⟨rfl, rfl⟩))
    (fun os started H enc _ F => lifted os started H enc F)

theorem proved : Rows.DirReadsUptoSaid := over
#print axioms proved
end Go.Proofs.Ytmkghiigpffhlaa.dirReads
namespace Go.Proofs.Ytmkghiigpffhlaa
theorem dirReads_holds : Rows.DirReadsUptoSaid := dirReads.proved
end Go.Proofs.Ytmkghiigpffhlaa
