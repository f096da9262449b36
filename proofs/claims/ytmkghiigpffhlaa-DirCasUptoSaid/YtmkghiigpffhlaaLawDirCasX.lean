/-
  Walks: the law DirCas.
-/
import Derived.Test.YtmkghiigpffhlaaH9
import Derived.WalkKit
import Derived.ProofKit
import Derived.OpenShut
import Derived.ShutString
import Derived.ChangeOld
import Derived.Below
import Derived.JoinedCond
import Derived.Carry
set_option linter.unusedSimpArgs false
set_option linter.unusedVariables false
namespace Go.DS
open Go Go.Proofs
set_option maxRecDepth 100000
set_option linter.unusedVariables false
set_option linter.unusedSimpArgs false
def cd6 : Cd := .seq (R [cb 10 (.tk (.c (kb false)))] [0, 1, 2, 3, 4, 14, 15, 16]) (.seq (R [cb 17 (.call none (.c (kf 12)) []), cb 11 (.tk (.s 17))] [0, 1, 2, 3, 4, 11, 14, 15, 16]) (.seq (.seq (R [cb 18 (.mv (.s 11)), cb 19 (.un .not (.s 18))] [0, 1, 2, 3, 4, 11, 14, 15, 16, 19]) (.ite (.s 19) (.seq (R [cb 10 (.tk (.c (kb false)))] [10, 14, 15, 16]) (.ret)) (.skip))) (.seq (.seq (R [c0 20 (.mv (.s 0)), cb 21 (.call none (.c (kf 13)) [(.s 20)]), cb 22 (.mv (.s 21)), cg 23 22 false (.mv (.s 1)), cg 24 22 false (.len 0 (.s 23)), ch 25 22 false (.bin .gtr .any (.s 24) (.c (ki .i64 300))), cb 26 (.pick (.s 22) (.c (kb true)) (.s 25)), cb 27 (.mv (.s 26)), cg 28 27 false (.mv (.s 2)), cg 29 27 false (.len 0 (.s 28)), ch 30 27 false (.bin .gtr .any (.s 29) (.c (ki .i64 64))), cb 31 (.pick (.s 27) (.c (kb true)) (.s 30)), cb 32 (.mv (.s 31)), cg 33 32 false (.mv (.s 3)), cg 34 32 false (.len 0 (.s 33)), ch 35 32 false (.bin .gtr .any (.s 34) (.c (ki .i64 64))), cb 36 (.pick (.s 32) (.c (kb true)) (.s 35))] [0, 1, 2, 3, 4, 11, 14, 15, 16, 36]) (.ite (.s 36) (.seq (R [cb 37 (.tk (.s 11)), cb 10 (.tk (.s 37))] [10, 14, 15, 16]) (.ret)) (.skip))) (.seq (R [c0 38 (.call none (.c (kf 23)) []), c0 12 (.tk (.s 38))] [0, 1, 2, 3, 4, 11, 12, 14, 15, 16]) (.seq (.seq (R [c0 13 (.tk (.c (ki .i64 0)))] [0, 1, 2, 3, 4, 11, 12, 13, 14, 15, 16]) (.block 0 (LP [0, 1, 2, 3, 4, 11, 12, 13, 14, 15, 16] (.seq (.seq (R [c0 39 (.mv (.s 13)), c0 40 (.mv (.s 0)), c0 41 (.len 1 (.s 40)), cb 42 (.bin .lss .any (.s 39) (.s 41))] [0, 1, 2, 3, 4, 11, 12, 13, 14, 15, 16, 42]) (.ite (.s 42) (.skip) (.exit 0))) (.seq (.block 1 (R [c0 45 (.mv (.s 12)), c0 46 (.mv (.s 0)), c0 47 (.mv (.s 13)), c0 48 (.ixp 8 (.s 46) (.s 47)), c0 49 (.ld true 8 (.s 48)), c0 50 (.call none (.c (kf 17)) [(.s 45), (.s 49)])] [0, 1, 2, 3, 4, 11, 12, 13, 14, 15, 16])) (R [c0 43 (.mv (.s 13)), c0 44 (.bin .add .any (.s 43) (.c (ki .i64 1))), c0 13 (.tk (.s 44))] [0, 1, 2, 3, 4, 11, 12, 13, 14, 15, 16])))))) (.seq (R [c0 51 (.mv (.s 12)), c0 52 (.mv (.s 1)), c0 53 (.bld [ki .i64 0, ki .i64 0, ki .i64 0, ks [], ks [], ki .i64 0, ki .i64 0, ki .i64 0] [(2, 1, (.c (ki .i64 4))), (3, 1, (.s 52))]), c0 54 (.call none (.c (kf 17)) [(.s 51), (.s 53)]), c0 14 (.new false (.c (.agg [ki .i64 0, ks [], ki .i64 0, kn 1]))), cn (.st 4 (.s 14) (.s 54))] [1, 2, 3, 4, 11, 12, 14, 15, 16]) (.seq (R [c0 55 (.mv (.s 12)), c0 56 (.mv (.s 1)), c0 57 (.mv (.s 2)), c0 58 (.mv (.s 4)), c0 59 (.bld [ki .i64 0, ki .i64 0, ki .i64 0, ks [], ks [], ki .i64 0, ki .i64 0, ki .i64 0] [(2, 1, (.c (ki .i64 6))), (3, 1, (.s 56)), (4, 1, (.s 57)), (5, 1, (.s 58))]), c0 60 (.call none (.c (kf 17)) [(.s 55), (.s 59)]), c0 15 (.new false (.c (.agg [ki .i64 0, ks [], ki .i64 0, kn 1]))), cn (.st 4 (.s 15) (.s 60))] [1, 3, 4, 11, 12, 14, 15, 16]) (.seq (R [c0 61 (.mv (.s 12)), c0 62 (.mv (.s 1)), c0 63 (.mv (.s 3)), c0 64 (.mv (.s 4)), c0 65 (.bld [ki .i64 0, ki .i64 0, ki .i64 0, ks [], ks [], ki .i64 0, ki .i64 0, ki .i64 0] [(2, 1, (.c (ki .i64 6))), (3, 1, (.s 62)), (4, 1, (.s 63)), (5, 1, (.s 64))]), c0 66 (.call none (.c (kf 17)) [(.s 61), (.s 65)]), c0 16 (.new false (.c (.agg [ki .i64 0, ks [], ki .i64 0, kn 1]))), cn (.st 4 (.s 16) (.s 66))] [1, 4, 11, 14, 15, 16]) (.seq (.seq (R [c0 67 (.mov 0 (.s 14)), c0 68 (.ld false 1 (.s 67)), cb 69 (.bin .neq .any (.s 68) (.c (ki .i64 0))), cb 70 (.mv (.s 69)), cg 71 70 false (.mv (.s 1)), ch 72 70 false (.bin .eql .any (.s 71) (.c (ks [47]))), cb 73 (.pick (.s 70) (.c (kb true)) (.s 72))] [4, 11, 14, 15, 16, 73]) (.ite (.s 73) (.seq (R [cb 74 (.mv (.s 11)), cb 75 (.mv (.s 74)), cg 76 75 true (.mov 0 (.s 15)), cg 77 75 true (.ld false 1 (.s 76)), ch 78 75 true (.bin .neq .any (.s 77) (.c (ki .i64 0))), cb 79 (.pick (.s 75) (.s 78) (.c (kb false))), cb 80 (.mv (.s 79)), cg 81 80 true (.mov 0 (.s 16)), cg 82 80 true (.ld false 1 (.s 81)), ch 83 80 true (.bin .neq .any (.s 82) (.c (ki .i64 0))), cb 84 (.pick (.s 80) (.s 83) (.c (kb false))), cb 10 (.tk (.s 84))] [10, 14, 15, 16]) (.ret)) (.skip))) (.seq (.seq (R [c0 85 (.mov 2 (.s 14)), c0 86 (.ld false 1 (.s 85)), c0 87 (.mv (.s 4)), cb 88 (.bin .neq .any (.s 86) (.s 87))] [4, 11, 14, 15, 16, 88]) (.ite (.s 88) (.seq (R [cb 89 (.mv (.s 11)), cb 90 (.mv (.s 89)), cg 91 90 true (.mov 0 (.s 15)), cg 92 90 true (.ld false 1 (.s 91)), ch 93 90 true (.bin .eql .any (.s 92) (.c (ki .i64 5))), cb 94 (.pick (.s 90) (.s 93) (.c (kb false))), cb 95 (.mv (.s 94)), cg 96 95 true (.mov 2 (.s 15)), cg 97 95 true (.ld false 1 (.s 96)), cg 98 95 true (.mov 2 (.s 14)), cg 99 95 true (.ld false 1 (.s 98)), ch 100 95 true (.bin .eql .any (.s 97) (.s 99)), cb 101 (.pick (.s 95) (.s 100) (.c (kb false))), cb 102 (.mv (.s 101)), cg 103 102 true (.mov 0 (.s 16)), cg 104 102 true (.ld false 1 (.s 103)), ch 105 102 true (.bin .eql .any (.s 104) (.c (ki .i64 5))), cb 106 (.pick (.s 102) (.s 105) (.c (kb false))), cb 10 (.tk (.s 106))] [10, 14, 15, 16]) (.ret)) (.skip))) (.seq (R [cb 107 (.mv (.s 11)), cb 108 (.mv (.s 107)), cg 109 108 true (.mov 0 (.s 15)), cg 110 108 true (.ld false 1 (.s 109)), ch 111 108 true (.bin .eql .any (.s 110) (.c (ki .i64 0))), cb 112 (.pick (.s 108) (.s 111) (.c (kb false))), cb 113 (.mv (.s 112)), cg 114 113 true (.mov 2 (.s 15)), cg 115 113 true (.ld false 1 (.s 114)), cg 116 113 true (.mv (.s 4)), cg 117 113 true (.bin .add .any (.s 116) (.c (ki .i64 1))), ch 118 113 true (.bin .eql .any (.s 115) (.s 117)), cb 119 (.pick (.s 113) (.s 118) (.c (kb false))), cb 120 (.mv (.s 119)), cg 121 120 true (.mov 0 (.s 16)), cg 122 120 true (.ld false 1 (.s 121)), ch 123 120 true (.bin .eql .any (.s 122) (.c (ki .i64 5))), cb 124 (.pick (.s 120) (.s 123) (.c (kb false))), cb 10 (.tk (.s 124))] [10, 14, 15, 16]) (.ret))))))))))))
theorem fun6 : Fun Try.prog cfg 6 125 cd6 [.s 10] := ⟨rfl, Try.f6, _, Try.func6, rfl, rfl, by kernel_rfl, by kernel_rfl⟩
@[go_sem] theorem ok6 : calleeOK Try.prog 6 = true := by kernel_rfl
@[go_sem] theorem ex6 : (cfg.ext 6).isSome = false := rfl
variable {h : DHeap}
def casC (p v : Str) (k : Int) : Cmd := ⟨0, 0, 6, p, v, k, 0, 0⟩
def casR (es : Dir) (p v : Str) (k : Int) : Rep × Dir :=
  if (parse p).isSome = false ∨ p = [47] then ({ err := 1 }, es)
  else if thereB es p = false then ({ err := 2 }, es)
  else if (curP es p).2 ≠ k then ({ err := 5, version := (curP es p).2 }, es)
  else ({ version := (curP es p).2 + 1 }, aset p (v, (curP es p).2 + 1) es)
theorem apply_cas (es : Dir) (p v : Str) (k : Int) (hv : v.length ≤ 64) : applyP es (casC p v k) = casR es p v k := by
  unfold applyP casR casC casP setR
  by_cases h1 : p = [47]
  · simp [rightB, h1]
  · cases h : (parse p).isSome <;> cases h2 : thereB es p <;> simp [rightB, h, h2, h1, hv]
set_option maxHeartbeats 1000000 in
theorem dirCas_lim (own : Bool) (l : List Cmd) (p a b : Str) (ver : Int) (hl : l.length ≤ 1048576) (hs : ∀ x ∈ l, x.path.length ≤ 1048576) (hp : p.length ≤ 1048576) :
    lim Try.prog cfg 6 [.list own 8 (cms l), vs p, vs a, vs b, vi ver] h = some (vb true, h) := by
  refine lim_funp fun6 rfl (by simp) (by simp [heapFree, free_cms]) rfl ?_
  delta cd6
  have w7 := works7_lim (h := [])
  have o1 := over_lim (h := []) false l (by omega)
  have n0 := new0
  cases e1 : overP l with
  | true =>
    rw [e1] at o1
    simp -implicitDefEqProofs -dsimp only [go_sem, wp_RD, w7, o1, n0]
  | false =>
  rw [e1] at o1
  by_cases e3 : (300 : Int) < (p.length : Int)
  · simp -implicitDefEqProofs -dsimp only [go_sem, wp_RD, w7, o1, n0, e3]
  by_cases e4 : (64 : Int) < (a.length : Int)
  · simp -implicitDefEqProofs -dsimp only [go_sem, wp_RD, w7, o1, n0, e3, e4]
  by_cases e5 : (64 : Int) < (b.length : Int)
  · simp -implicitDefEqProofs -dsimp only [go_sem, wp_RD, w7, o1, n0, e3, e4, e5]
  simp -implicitDefEqProofs -dsimp only [go_sem, wp_RD, w7, o1, n0, e3, e4, e5]
  have O := fun k => doAll_ok (dirOK_nil 0 0) (l.take k)
  have hq : l.length ≤ 60 := Decidable.byContradiction fun h1 => by simp [overP, Nat.not_le.1 h1] at e1
  refine wp_for (σ := Nat) (fun k => [(0, .list false 8 (cms l)), (1, vs p), (2, vs a), (3, vs b), (4, vi ver), (11, vb true), (12, .ptr 1 0), (13, vi (k : Nat)), (14, .junk), (15, .junk), (16, .junk)]) (fun k => hD (doAll [] (l.take k))) (fun k => l.length - k) (fun k => k ≤ l.length) 0 (Nat.zero_le _) rfl rfl ?_
  rintro k hk N hN
  have Ok := O k
  have hln : (l.take k).length = k := by rw [List.length_take]; omega
  rw [hln] at Ok
  by_cases hlt : k < l.length
  · have h1 : (k : Int) < (l.length : Int) := by omega
    have a1 := applyD Ok (by omega) (by omega) l[k] (by have := hs _ (List.getElem_mem hlt); omega)
    have hd : doAll [] (l.take (k + 1)) = (applyP (doAll [] (l.take k)) l[k]).2 := by rw [List.take_succ_eq_append_getElem hlt, doAll_snoc]
    simp -implicitDefEqProofs -dsimp only [go_sem, h1, hlt, a1]
    rw [← hd]
    refine hN (k + 1) _ (by omega) (by omega) ?_
    simp -implicitDefEqProofs -dsimp only [go_sem, wrap_succ (show k < 9223372036854775807 by omega)]
  · have h1 : ¬ (k : Int) < (l.length : Int) := by omega
    generalize hes : doAll [] (l.take k) = es at *
    have g1 := applyD Ok (by omega) (by omega) (getC p) (show p.length ≤ 1099511627776 by omega)
    have g2 := applyD Ok (by omega) (by omega) (casC p a ver) (show p.length ≤ 1099511627776 by omega)
    have g3 := applyD (applyP_ok Ok (casC p a ver)) (by omega) (by omega) (casC p b ver) (show p.length ≤ 1099511627776 by omega)
    rw [apply_get] at g1
    rw [apply_cas _ _ _ _ (by omega)] at g2 g3
    rw [apply_cas _ _ _ _ (by omega)] at g3
    simp only [getC] at g1
    simp only [casC] at g2 g3
    by_cases c1 : (parse p).isSome = false
    · simp only [getR, casR, c1, true_or, if_true] at g1 g2 g3
      simp -implicitDefEqProofs -dsimp only [go_sem, h1, g1, g2, g3]
    by_cases c2 : p = [47]
    · subst c2
      simp only [getR, casR, c1, or_true, if_true, if_false, Bool.true_eq_false, or_self, reduceIte] at g1 g2 g3
      by_cases c3 : thereB es [47] = false
      · simp only [c3, if_true] at g1
        simp -implicitDefEqProofs -dsimp only [go_sem, h1, g1, g2, g3]
      · simp only [c3, if_false, Bool.true_eq_false, reduceIte] at g1
        simp -implicitDefEqProofs -dsimp only [go_sem, h1, g1, g2, g3]
    by_cases c3 : thereB es p = false
    · simp only [getR, casR, c1, c2, c3, or_false, if_true, if_false, Bool.true_eq_false, or_self, reduceIte] at g1 g2 g3
      simp -implicitDefEqProofs -dsimp only [go_sem, h1, g1, g2, g3]
    have hmem : p ∈ keys es := (thereB_iff.1 (by simpa using c3)).resolve_right c2
    have hcur := cur_ok Ok hmem
    by_cases c4 : (curP es p).2 = ver
    · have hc' : curP (aset p (a, ver + 1) es) p = (a, ver + 1) := by simp [curP, aget_set]
      have ht' : thereB (aset p (a, ver + 1) es) p = true := by simp [thereB, aget_set]
      have hne : ver + 1 ≠ ver := by omega
      rw [c4] at hcur
      have hw : IntKind.wrap .i64 (ver + 1) = ver + 1 := wrap64 (by omega) (by omega)
      simp only [getR, casR, c1, c2, c3, c4, or_false, if_false, ne_eq, not_true, ht', hc', Bool.true_eq_false, or_self, reduceIte] at g1 g2 g3
      simp only [hne, not_false_eq_true, if_true] at g3
      simp -implicitDefEqProofs -dsimp only [go_sem, h1, g1, g2, g3, c2, hw]
    · simp only [getR, casR, c1, c2, c3, c4, or_false, if_true, if_false, ne_eq, not_false_eq_true, Bool.true_eq_false, or_self, reduceIte] at g1 g2 g3
      simp -implicitDefEqProofs -dsimp only [go_sem, h1, g1, g2, g3, c2, c4]
end Go.DS

/-
  The row DirCas.
-/
namespace Go.Proofs.Ytmkghiigpffhlaa.dirCas
open Go.ChangeShapes Go.WideShapes Go.ChangeAt Go.RowKit
open Go.ChangeMaps (open_string shut_string)
open Go.DS
set_option linter.unusedVariables false
set_option linter.unusedSimpArgs false

set_option maxRecDepth 100000 in
theorem contract (H : Type) (enc : TypeId × Value → H) (W : World) (base : Nat) (args : Array Value) (ds gs : List (DataW H)) (before : List MemPlace)
    (hval0 : ∀ (j : Nat) t v, Try.f6.params[j]? = some t → args[j]? = some v → Value.okWide Try.prog W .any base t v)
    (hW : DataW.Whole enc Try.prog Try.f6.params.toList Rows.dirCasSpec.vars false W args.toList ds gs before) (hk : Rows.uptoSmall H (ds ++ gs) = true) :
    Calls Try.prog 6 args W fun e W' => ∃ v, e = .returned v ∧ Rows.dirCasSpec.post enc Try.prog Try.f6 false true false false W args v W' := by
  have hval : ∀ (j : Nat) t v, Try.f6.params[j]? = some t → args[j]? = some v → Value.okWide Try.prog W .any base t v := hval0
  have hW' := hW
  obtain ⟨p, q, hA0, hV, rfl, hfz, hnd⟩ := hW
  have hA : DataW.TrodAll enc Try.prog W 0 (fun _ => true) true Try.f6.params.toList args.toList ds p := hA0
  rw [Try.params6] at hA hval
  obtain ⟨v0, vs0, d0, ds0, p0, q0, hargs, rfl, rfl, h0, r0⟩ := trodAll_cons hA
  obtain ⟨v1, vs1, d1, ds1, p1, q1, rfl, rfl, rfl, h1, r1⟩ := trodAll_cons r0
  obtain ⟨v2, vs2, d2, ds2, p2, q2, rfl, rfl, rfl, h2, r2⟩ := trodAll_cons r1
  obtain ⟨v3, vs3, d3, ds3, p3, q3, rfl, rfl, rfl, h3, r3⟩ := trodAll_cons r2
  obtain ⟨v4, vs4, d4, ds4, p4, q4, rfl, rfl, rfl, h4, r4⟩ := trodAll_cons r3
  obtain ⟨rfl, rfl, rfl⟩ := trodAll_nil r4
  obtain rfl : args = #[v0, v1, v2, v3, v4] := by cases args; simp_all
  obtain ⟨rfl, rfl⟩ := trodVars_none hV
  have lt0 : ∀ x ∈ p0, x.block < W.heap.size := by obtain ⟨m, hm⟩ := h0; exact DataW.trod_lt m _ _ _ hm
  have k0 := h0
  obtain ⟨a0, y0, b0⟩ := arg_cmds (B := 1048575) (hval 0 23 v0 rfl rfl) h0 (by have hb := of_decide_eq_true hk; simp only [Rows.uptoBulkAll, List.append_nil, List.cons_append, List.nil_append] at hb; omega)
  have lt1 : ∀ x ∈ p1, x.block < W.heap.size := by obtain ⟨m, hm⟩ := h1; exact DataW.trod_lt m _ _ _ hm
  have k1 := h1
  obtain ⟨a1, rfl, rfl, rfl, y1⟩ := open_string Try.underlying9 (hval 1 9 v1 rfl rfl) h1
  have lt2 : ∀ x ∈ p2, x.block < W.heap.size := by obtain ⟨m, hm⟩ := h2; exact DataW.trod_lt m _ _ _ hm
  have k2 := h2
  obtain ⟨a2, rfl, rfl, rfl, y2⟩ := open_string Try.underlying9 (hval 2 9 v2 rfl rfl) h2
  have lt3 : ∀ x ∈ p3, x.block < W.heap.size := by obtain ⟨m, hm⟩ := h3; exact DataW.trod_lt m _ _ _ hm
  have k3 := h3
  obtain ⟨a3, rfl, rfl, rfl, y3⟩ := open_string Try.underlying9 (hval 3 9 v3 rfl rfl) h3
  have lt4 : ∀ x ∈ p4, x.block < W.heap.size := by obtain ⟨m, hm⟩ := h4; exact DataW.trod_lt m _ _ _ hm
  have k4 := h4
  obtain ⟨a4, rfl, rfl, rfl, y4⟩ := open_int Try.underlying3 (hval 4 3 v4 rfl rfl) h4
  clear hA0 hval0
  have hb := of_decide_eq_true hk
  simp only [Rows.uptoBulkAll, Rows.uptoBulk, List.append_nil] at hb
  have b1 : (bs a1).length ≤ 1048575 := by have : (bs a1).length = a1.data.toList.length := rfl; omega
  have b2 : (bs a2).length ≤ 1048575 := by have : (bs a2).length = a2.data.toList.length := rfl; omega
  have b3 : (bs a3).length ≤ 1048575 := by have : (bs a3).length = a3.data.toList.length := rfl; omega
  refine (Go.DS.start ext_ok (dirCas_lim false a0 (bs a1) (bs a2) (bs a3) a4 (by have := b0.1; omega) (fun x hx => by have := (b0.2 x hx).path; omega) (by omega)) W (vs := #[v0, .string a1, .string a2, .string a3, .int .i64 a4]) (.cons (y0) (.cons (.sc _) (.cons (.sc _) (.cons (.sc _) (.cons (.sc _) (.nil _))))))).mono fun e W' ⟨he, bel⟩ => ?_
  subst he
  exact ⟨_, rfl, _, _, _, [], _, [], hW', trodAll_mk1 (shut_bool Try.underlying4 _), (trodAll_cons_mk (Below.trod laidOut' (by kernel_rfl) (of_decide_eq_true (by kernel_rfl)) k0 bel lt0) (trodAll_cons_mk (Below.trod laidOut' (by kernel_rfl) (of_decide_eq_true (by kernel_rfl)) k1 bel lt1) (trodAll_cons_mk (Below.trod laidOut' (by kernel_rfl) (of_decide_eq_true (by kernel_rfl)) k2 bel lt2) (trodAll_cons_mk (Below.trod laidOut' (by kernel_rfl) (of_decide_eq_true (by kernel_rfl)) k3 bel lt3) (trodAll_cons_mk (Below.trod laidOut' (by kernel_rfl) (of_decide_eq_true (by kernel_rfl)) k4 bel lt4) trodAll_mk0))))), rfl, bel.frame _, fun h => by cases h⟩

set_option maxRecDepth 100000 in
theorem lifted (os : Os) (started : os.Started) (H : Type) (enc : TypeId × Value → H) (F : Stop.Interp) :
    ReturnsInHanded {} Try.checked os 6 .any ((Rows.OpenSpec.upto Rows.dirCasSpec).pre6 enc Try.prog Try.f6 Rows.dirCasUptoRow.domain false) (((Rows.OpenSpec.upto Rows.dirCasSpec).at F).post enc Try.prog Try.f6 false true false false) := by
  refine returnsInHanded_of_cond (C := Try.checked) (s := Rows.OpenSpec.upto Rows.dirCasSpec) (k := Rows.uptoSmall) rfl own' started (by kernel_rfl) Try.func6
    (OpenSpec.witness (enc := enc) (C := Try.checked) (s := Rows.OpenSpec.upto Rows.dirCasSpec) (k := Rows.uptoSmall) rfl false ⟨#[], #[.slice none 0 0, .string ByteArray.empty, .string ByteArray.empty, .string ByteArray.empty, .int .i64 0], []⟩ 8 (by kernel_rfl) (by kernel_rfl) (by kernel_rfl)
      (x := ([.nil, .lit (.string []), .lit (.string []), .lit (.string []), .lit (.int .i64 0)], [], [])) (by kernel_rfl) rfl (by kernel_rfl)) ?_
  intro W base args ds gs before hval hW _ hk _
  exact contract H enc W base args ds gs before hval hW hk

theorem over : Rows.dirCasUptoRow.holds Try.pinned (Rows.OpenSpec.upto Rows.dirCasSpec) :=
  OpenClaim.holds_of_cond 6 Try.f6 rfl rfl rfl rfl rfl rfl rfl ⟨rfl, rfl, rfl, rfl, rfl⟩ rfl rfl rfl rfl rfl (by kernel_rfl) Try.func6 (by kernel_rfl)
    (of_decide_eq_true (by kernel_rfl)) (by unfold Func.isWrapper; first | (rw [if_pos (by decide +kernel)]; kernel_rfl) | (rw [if_neg (by decide +kernel)]; exact ⟨rfl, rfl⟩))
    (fun os started H enc _ F => lifted os started H enc F)

theorem proved : Rows.DirCasUptoSaid := over
#print axioms proved
end Go.Proofs.Ytmkghiigpffhlaa.dirCas
namespace Go.Proofs.Ytmkghiigpffhlaa
theorem dirCas_holds : Rows.DirCasUptoSaid := dirCas.proved
end Go.Proofs.Ytmkghiigpffhlaa
