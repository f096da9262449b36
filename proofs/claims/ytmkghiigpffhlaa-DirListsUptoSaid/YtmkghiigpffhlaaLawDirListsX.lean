/-
  Walks: the law DirDeletes.
-/
import Derived.Test.YtmkghiigpffhlaaH9
import Derived.WalkKit
import Derived.ProofKit
import Derived.OpenShut
import Derived.ShutString
import Derived.ChangeOld
import Derived.Below
import Derived.JoinedCond
import Derived.Carry
set_option linter.unusedSimpArgs false
set_option linter.unusedVariables false
namespace Go.DS
open Go Go.Proofs
set_option maxRecDepth 100000
set_option linter.unusedVariables false
set_option linter.unusedSimpArgs false
def cd8 : Cd := .seq (R [cb 6 (.tk (.c (kb false)))] [0, 1, 2, 10, 11, 12, 13]) (.seq (R [cb 14 (.call none (.c (kf 12)) []), cb 7 (.tk (.s 14))] [0, 1, 2, 7, 10, 11, 12, 13]) (.seq (.seq (R [cb 15 (.mv (.s 7)), cb 16 (.un .not (.s 15))] [0, 1, 2, 7, 10, 11, 12, 13, 16]) (.ite (.s 16) (.seq (R [cb 6 (.tk (.c (kb false)))] [6, 10, 11, 12, 13]) (.ret)) (.skip))) (.seq (.seq (R [c0 17 (.mv (.s 0)), cb 18 (.call none (.c (kf 13)) [(.s 17)]), cb 19 (.mv (.s 18)), cg 20 19 false (.mv (.s 1)), cg 21 19 false (.len 0 (.s 20)), ch 22 19 false (.bin .gtr .any (.s 21) (.c (ki .i64 300))), cb 23 (.pick (.s 19) (.c (kb true)) (.s 22)), cb 24 (.mv (.s 23)), cg 25 24 false (.mv (.s 2)), cg 26 24 false (.len 0 (.s 25)), ch 27 24 false (.bin .gtr .any (.s 26) (.c (ki .i64 64))), cb 28 (.pick (.s 24) (.c (kb true)) (.s 27))] [0, 1, 2, 7, 10, 11, 12, 13, 28]) (.ite (.s 28) (.seq (R [cb 29 (.tk (.s 7)), cb 6 (.tk (.s 29))] [6, 10, 11, 12, 13]) (.ret)) (.skip))) (.seq (R [c0 30 (.call none (.c (kf 23)) []), c0 8 (.tk (.s 30))] [0, 1, 2, 7, 8, 10, 11, 12, 13]) (.seq (.seq (R [c0 9 (.tk (.c (ki .i64 0)))] [0, 1, 2, 7, 8, 9, 10, 11, 12, 13]) (.block 0 (LP [0, 1, 2, 7, 8, 9, 10, 11, 12, 13] (.seq (.seq (R [c0 31 (.mv (.s 9)), c0 32 (.mv (.s 0)), c0 33 (.len 1 (.s 32)), cb 34 (.bin .lss .any (.s 31) (.s 33))] [0, 1, 2, 7, 8, 9, 10, 11, 12, 13, 34]) (.ite (.s 34) (.skip) (.exit 0))) (.seq (.block 1 (R [c0 37 (.mv (.s 8)), c0 38 (.mv (.s 0)), c0 39 (.mv (.s 9)), c0 40 (.ixp 8 (.s 38) (.s 39)), c0 41 (.ld true 8 (.s 40)), c0 42 (.call none (.c (kf 17)) [(.s 37), (.s 41)])] [0, 1, 2, 7, 8, 9, 10, 11, 12, 13])) (R [c0 35 (.mv (.s 9)), c0 36 (.bin .add .any (.s 35) (.c (ki .i64 1))), c0 9 (.tk (.s 36))] [0, 1, 2, 7, 8, 9, 10, 11, 12, 13])))))) (.seq (R [c0 43 (.mv (.s 8)), c0 44 (.mv (.s 1)), c0 45 (.bld [ki .i64 0, ki .i64 0, ki .i64 0, ks [], ks [], ki .i64 0, ki .i64 0, ki .i64 0] [(2, 1, (.c (ki .i64 5))), (3, 1, (.s 44))]), c0 46 (.call none (.c (kf 17)) [(.s 43), (.s 45)]), c0 10 (.new false (.c (.agg [ki .i64 0, ks [], ki .i64 0, kn 1]))), cn (.st 4 (.s 10) (.s 46))] [1, 2, 7, 8, 10, 11, 12, 13]) (.seq (R [c0 47 (.mv (.s 8)), c0 48 (.mv (.s 1)), c0 49 (.bld [ki .i64 0, ki .i64 0, ki .i64 0, ks [], ks [], ki .i64 0, ki .i64 0, ki .i64 0] [(2, 1, (.c (ki .i64 2))), (3, 1, (.s 48))]), c0 50 (.call none (.c (kf 17)) [(.s 47), (.s 49)]), c0 11 (.new false (.c (.agg [ki .i64 0, ks [], ki .i64 0, kn 1]))), cn (.st 4 (.s 11) (.s 50))] [1, 2, 7, 8, 10, 11, 12, 13]) (.seq (.seq (R [c0 51 (.mov 0 (.s 10)), c0 52 (.ld false 1 (.s 51)), cb 53 (.bin .neq .any (.s 52) (.c (ki .i64 0))), cb 54 (.mv (.s 53)), cg 55 54 false (.mv (.s 1)), ch 56 54 false (.bin .eql .any (.s 55) (.c (ks [47]))), cb 57 (.pick (.s 54) (.c (kb true)) (.s 56))] [1, 2, 7, 8, 10, 11, 12, 13, 57]) (.ite (.s 57) (.seq (R [cb 58 (.mv (.s 7)), cb 59 (.mv (.s 58)), cg 60 59 true (.mov 0 (.s 11)), cg 61 59 true (.ld false 1 (.s 60)), ch 62 59 true (.bin .neq .any (.s 61) (.c (ki .i64 0))), cb 63 (.pick (.s 59) (.s 62) (.c (kb false))), cb 6 (.tk (.s 63))] [6, 10, 11, 12, 13]) (.ret)) (.skip))) (.seq (.seq (R [c0 64 (.mov 3 (.s 10)), c0 65 (.ld false 1 (.s 64)), c0 66 (.len 1 (.s 65)), cb 67 (.bin .gtr .any (.s 66) (.c (ki .i64 0)))] [1, 2, 7, 8, 10, 11, 12, 13, 67]) (.ite (.s 67) (.seq (R [cb 68 (.mv (.s 7)), cb 69 (.mv (.s 68)), cg 70 69 true (.mov 0 (.s 11)), cg 71 69 true (.ld false 1 (.s 70)), ch 72 69 true (.bin .eql .any (.s 71) (.c (ki .i64 4))), cb 73 (.pick (.s 69) (.s 72) (.c (kb false))), cb 6 (.tk (.s 73))] [6, 10, 11, 12, 13]) (.ret)) (.skip))) (.seq (R [c0 74 (.mv (.s 8)), c0 75 (.mv (.s 1)), c0 76 (.mv (.s 2)), c0 77 (.bld [ki .i64 0, ki .i64 0, ki .i64 0, ks [], ks [], ki .i64 0, ki .i64 0, ki .i64 0] [(2, 1, (.c (ki .i64 1))), (3, 1, (.s 75)), (4, 1, (.s 76))]), c0 78 (.call none (.c (kf 17)) [(.s 74), (.s 77)]), c0 12 (.new false (.c (.agg [ki .i64 0, ks [], ki .i64 0, kn 1]))), cn (.st 4 (.s 12) (.s 78))] [1, 2, 7, 8, 10, 11, 12, 13]) (.seq (R [c0 79 (.mv (.s 8)), c0 80 (.mv (.s 1)), c0 81 (.bld [ki .i64 0, ki .i64 0, ki .i64 0, ks [], ks [], ki .i64 0, ki .i64 0, ki .i64 0] [(2, 1, (.c (ki .i64 4))), (3, 1, (.s 80))]), c0 82 (.call none (.c (kf 17)) [(.s 79), (.s 81)]), c0 13 (.new false (.c (.agg [ki .i64 0, ks [], ki .i64 0, kn 1]))), cn (.st 4 (.s 13) (.s 82))] [2, 7, 10, 11, 12, 13]) (.seq (R (cb 83 (.mv (.s 7)) :: cb 84 (.mv (.s 83)) :: cg 85 84 true (.mov 0 (.s 11)) :: cg 86 84 true (.ld false 1 (.s 85)) :: ch 87 84 true (.bin .eql .any (.s 86) (.c (ki .i64 0))) :: cb 88 (.pick (.s 84) (.s 87) (.c (kb false))) :: cb 89 (.mv (.s 88)) :: cg 90 89 true (.mov 0 (.s 12)) :: cg 91 89 true (.ld false 1 (.s 90)) :: ch 92 89 true (.bin .eql .any (.s 91) (.c (ki .i64 0))) :: cb 93 (.pick (.s 89) (.s 92) (.c (kb false))) :: cb 94 (.mv (.s 93)) :: cg 95 94 true (.mov 2 (.s 12)) :: cg 96 94 true (.ld false 1 (.s 95)) :: ch 97 94 true (.bin .eql .any (.s 96) (.c (ki .i64 1))) :: cb 98 (.pick (.s 94) (.s 97) (.c (kb false))) :: cb 99 (.mv (.s 98)) :: cg 100 99 true (.mov 1 (.s 13)) :: cg 101 99 true (.ld false 1 (.s 100)) :: cg 102 99 true (.mv (.s 2)) :: ch 103 99 true (.bin .eql .any (.s 101) (.s 102)) :: cb 104 (.pick (.s 99) (.s 103) (.c (kb false))) :: cb 105 (.mv (.s 104)) :: cg 106 105 true (.mov 2 (.s 13)) :: cg 107 105 true (.ld false 1 (.s 106)) :: ch 108 105 true (.bin .eql .any (.s 107) (.c (ki .i64 1))) :: cb 109 (.pick (.s 105) (.s 108) (.c (kb false))) :: cb 6 (.tk (.s 109)) :: []) [6, 10, 11, 12, 13]) (.ret)))))))))))))
theorem fun8 : Fun Try.prog cfg 8 110 cd8 [.s 6] := ⟨rfl, Try.f8, _, Try.func8, rfl, rfl, by kernel_rfl, by kernel_rfl⟩
@[go_sem] theorem ok8 : calleeOK Try.prog 8 = true := by kernel_rfl
@[go_sem] theorem ex8 : (cfg.ext 8).isSome = false := rfl
variable {h : DHeap}
/-- Deleting: what it needs, and what comes of it. -/
def listC (p : Str) : Cmd := ⟨0, 0, 5, p, [], 0, 0, 0⟩
def delC (p : Str) : Cmd := ⟨0, 0, 2, p, [], 0, 0, 0⟩
def createC (p v : Str) : Cmd := ⟨0, 0, 1, p, v, 0, 0, 0⟩
theorem apply_list {es : Dir} {p : Str} : applyP es (listC p) = (if (parse p).isSome = false then { err := 1 } else if thereB es p = false then { err := 2 } else { names := childs es p }, es) := by
  unfold applyP listC
  cases h : (parse p).isSome <;> cases h2 : thereB es p <;> simp [rightB, h, h2]
theorem apply_del {es : Dir} {p : Str} : applyP es (delC p) = (if (parse p).isSome = false ∨ p = [47] then ({ err := 1 }, es) else if thereB es p = false then ({ err := 2 }, es) else if childs es p ≠ [] then ({ err := 4 }, es) else ({}, adel p es)) := by
  unfold applyP delC removeP
  by_cases h1 : p = [47]
  · simp [rightB, h1]
  · cases h : (parse p).isSome <;> cases h2 : thereB es p <;> simp [rightB, h, h2, h1]
theorem deletes_plain {n m : Nat} {es : Dir} (O : DirOK n m es) {p v : Str} {l : List Str} (hl : parse p = some l) (ht : thereB es p = true) (hr : p ≠ [47]) (hc : childs es p = []) (hv : v.length ≤ 64) :
    applyP (adel p es) (createC p v) = ({ version := 1 }, aset p (v, 1) (adel p es)) ∧ getR (aset p (v, 1) (adel p es)) p = { value := v, version := 1 } := by
  have hk : p ∈ keys es := (thereB_iff.1 ht).resolve_right hr
  have hp := parse_parent hl (parse_ne hl hr)
  have hne : parentP p ≠ p := fun e => by
    have := parent_less hl (parse_ne hl hr)
    rw [e] at this
    exact less_asym this this
  have hup : thereB (adel p es) (parentP p) = true := by
    rw [thereB_iff]
    rcases O.up p hk with h | h
    · exact .inr h
    · left
      rw [keys_del O.nodup]
      exact List.mem_filter.2 ⟨h, by simp [hne]⟩
  refine ⟨?_, ?_⟩
  · have h1 : thereB (adel p es) p = false := there_del O.nodup hr
    simp [applyP, createC, createP, rightB, hl, hv, h1, hup]
  · rw [getR_there hl (there_set _ _ _), cur_set]
set_option maxHeartbeats 2000000 in
theorem dirDeletes_lim (own : Bool) (l : List Cmd) (p v : Str) (hl : l.length ≤ 1048576) (hs : ∀ x ∈ l, x.path.length ≤ 1048576) (hp : p.length ≤ 1048576) :
    lim Try.prog cfg 8 [.list own 8 (cms l), vs p, vs v] h = some (vb true, h) := by
  refine lim_funp fun8 rfl (by simp) (by simp [heapFree, heapFree.all, free_cms]) rfl ?_
  delta cd8
  have w7 := works7_lim (h := [])
  have o1 := over_lim (h := []) false l (by omega)
  have n0 := new0
  cases e1 : overP l with
  | true =>
    rw [e1] at o1
    simp -implicitDefEqProofs -dsimp only [go_sem, wp_RD, w7, o1, n0]
  | false =>
  rw [e1] at o1
  by_cases e3 : (300 : Int) < (p.length : Int)
  · simp -implicitDefEqProofs -dsimp only [go_sem, wp_RD, w7, o1, n0, e3]
  by_cases e4 : (64 : Int) < (v.length : Int)
  · simp -implicitDefEqProofs -dsimp only [go_sem, wp_RD, w7, o1, n0, e3, e4]
  simp -implicitDefEqProofs -dsimp only [go_sem, wp_RD, w7, o1, n0, e3, e4]
  have O := fun k => doAll_ok (dirOK_nil 0 0) (l.take k)
  have hq : l.length ≤ 60 := Decidable.byContradiction fun h1 => by simp [overP, Nat.not_le.1 h1] at e1
  refine wp_for (σ := Nat) (fun k => [(0, .list false 8 (cms l)), (1, vs p), (2, vs v), (7, vb true), (8, .ptr 1 0), (9, vi (k : Nat)), (10, .junk), (11, .junk), (12, .junk), (13, .junk)]) (fun k => hD (doAll [] (l.take k))) (fun k => l.length - k) (fun k => k ≤ l.length) 0 (Nat.zero_le _) rfl rfl ?_
  rintro k hk N hN
  have Ok := O k
  have hln : (l.take k).length = k := by rw [List.length_take]; omega
  rw [hln] at Ok
  by_cases hlt : k < l.length
  · have h1 : (k : Int) < (l.length : Int) := by omega
    have a1 := applyD Ok (by omega) (by omega) l[k] (by have := hs _ (List.getElem_mem hlt); omega)
    have hd : doAll [] (l.take (k + 1)) = (applyP (doAll [] (l.take k)) l[k]).2 := by rw [List.take_succ_eq_append_getElem hlt, doAll_snoc]
    simp -implicitDefEqProofs -dsimp only [go_sem, h1, hlt, a1]
    rw [← hd]
    refine hN (k + 1) _ (by omega) (by omega) ?_
    simp -implicitDefEqProofs -dsimp only [go_sem, wrap_succ (show k < 9223372036854775807 by omega)]
  · have h1 : ¬ (k : Int) < (l.length : Int) := by omega
    generalize hes : doAll [] (l.take k) = es at *
    have hle := Ok.len
    have g1 := applyD Ok (by omega) (by omega) (listC p) (show p.length ≤ 1099511627776 by omega)
    have g2 := applyD Ok (by omega) (by omega) (delC p) (show p.length ≤ 1099511627776 by omega)
    have Ok1 := applyP_ok Ok (delC p)
    have g3 := applyD Ok1 (by omega) (by omega) (createC p v) (show p.length ≤ 1099511627776 by omega)
    have Ok2 := applyP_ok Ok1 (createC p v)
    have g4 := applyD Ok2 (by omega) (by omega) (getC p) (show p.length ≤ 1099511627776 by omega)
    rw [apply_get] at g4
    rw [apply_list] at g1
    rw [apply_del] at g2 g3 g4
    cases hpa : parse p with
    | none =>
      simp only [hpa, Option.isSome_none, if_true, true_or, listC, delC] at g1 g2
      simp -implicitDefEqProofs -dsimp only [go_sem, wp_RD, h1, g1, g2]
    | some lp =>
    cases hth : thereB es p with
    | false =>
      by_cases hr : p = [47]
      · subst hr; simp [thereB] at hth
      simp only [hpa, hth, hr, Option.isSome_some, if_true, if_false, or_false, Bool.true_eq_false, listC, delC, reduceIte] at g1 g2
      simp -implicitDefEqProofs -dsimp only [go_sem, wp_RD, h1, g1, g2]
    | true =>
    by_cases hr : p = [47]
    · simp only [hpa, hth, hr, Option.isSome_some, if_true, if_false, or_true, Bool.true_eq_false, listC, delC, reduceIte] at g1 g2
      subst hr
      simp -implicitDefEqProofs -dsimp only [go_sem, wp_RD, h1, g1, g2]
    by_cases hc : childs es p = []
    · have dp := deletes_plain Ok hpa hth hr hc (show v.length ≤ 64 by omega)
      simp only [hpa, hth, hr, hc, Option.isSome_some, if_true, if_false, or_false, Bool.true_eq_false, ne_eq, not_true, reduceIte, or_self] at g1 g2 g3 g4
      rw [dp.1] at g3 g4
      simp only [dp.2] at g4
      simp only [listC, delC, createC, getC] at g1 g2 g3 g4
      simp -implicitDefEqProofs -dsimp only [go_sem, wp_RD, h1, g1, g2, g3, g4, hr]
    · have hc' : (0 : Int) < ((childs es p).length : Int) := by have := List.length_pos_iff.2 hc; omega
      simp only [hpa, hth, hr, hc, Option.isSome_some, if_true, if_false, or_false, Bool.true_eq_false, ne_eq, not_false_eq_true, reduceIte, or_self, listC, delC] at g1 g2
      simp -implicitDefEqProofs -dsimp only [go_sem, wp_RD, h1, g1, g2, hr, hc']
end Go.DS

/-
  Walks: the law DirLists.
-/
namespace Go.DS
open Go Go.Proofs
set_option maxRecDepth 100000
set_option linter.unusedVariables false
set_option linter.unusedSimpArgs false
def cd10 : Cd := .seq (R [cb 6 (.tk (.c (kb false)))] [0, 1, 2, 10, 15, 18]) (.seq (R [cb 19 (.call none (.c (kf 12)) []), cb 7 (.tk (.s 19))] [0, 1, 2, 7, 10, 15, 18]) (.seq (.seq (R [cb 20 (.mv (.s 7)), cb 21 (.un .not (.s 20))] [0, 1, 2, 7, 10, 15, 18, 21]) (.ite (.s 21) (.seq (R [cb 6 (.tk (.c (kb false)))] [6, 10, 15, 18]) (.ret)) (.skip))) (.seq (.seq (R [c0 22 (.mv (.s 0)), cb 23 (.call none (.c (kf 13)) [(.s 22)]), cb 24 (.mv (.s 23)), cg 25 24 false (.mv (.s 1)), cg 26 24 false (.len 0 (.s 25)), ch 27 24 false (.bin .gtr .any (.s 26) (.c (ki .i64 300))), cb 28 (.pick (.s 24) (.c (kb true)) (.s 27)), cb 29 (.mv (.s 28)), cg 30 29 false (.mv (.s 2)), cg 31 29 false (.len 0 (.s 30)), ch 32 29 false (.bin .gtr .any (.s 31) (.c (ki .i64 300))), cb 33 (.pick (.s 29) (.c (kb true)) (.s 32))] [0, 1, 2, 7, 10, 15, 18, 33]) (.ite (.s 33) (.seq (R [cb 34 (.tk (.s 7)), cb 6 (.tk (.s 34))] [6, 10, 15, 18]) (.ret)) (.skip))) (.seq (R [c0 35 (.call none (.c (kf 23)) []), c0 8 (.tk (.s 35))] [0, 1, 2, 7, 8, 10, 15, 18]) (.seq (.seq (R [c0 9 (.tk (.c (ki .i64 0)))] [0, 1, 2, 7, 8, 9, 10, 15, 18]) (.block 0 (LP [0, 1, 2, 7, 8, 9, 10, 15, 18] (.seq (.seq (R [c0 36 (.mv (.s 9)), c0 37 (.mv (.s 0)), c0 38 (.len 1 (.s 37)), cb 39 (.bin .lss .any (.s 36) (.s 38))] [0, 1, 2, 7, 8, 9, 10, 15, 18, 39]) (.ite (.s 39) (.skip) (.exit 0))) (.seq (.block 1 (R [c0 42 (.mv (.s 8)), c0 43 (.mv (.s 0)), c0 44 (.mv (.s 9)), c0 45 (.ixp 8 (.s 43) (.s 44)), c0 46 (.ld true 8 (.s 45)), c0 47 (.call none (.c (kf 17)) [(.s 42), (.s 46)])] [0, 1, 2, 7, 8, 9, 10, 15, 18])) (R [c0 40 (.mv (.s 9)), c0 41 (.bin .add .any (.s 40) (.c (ki .i64 1))), c0 9 (.tk (.s 41))] [0, 1, 2, 7, 8, 9, 10, 15, 18])))))) (.seq (R [c0 48 (.mv (.s 8)), c0 49 (.mv (.s 1)), c0 50 (.bld [ki .i64 0, ki .i64 0, ki .i64 0, ks [], ks [], ki .i64 0, ki .i64 0, ki .i64 0] [(2, 1, (.c (ki .i64 5))), (3, 1, (.s 49))]), c0 51 (.call none (.c (kf 17)) [(.s 48), (.s 50)]), c0 10 (.new false (.c (.agg [ki .i64 0, ks [], ki .i64 0, kn 1]))), cn (.st 4 (.s 10) (.s 51))] [1, 2, 7, 8, 10, 15, 18]) (.seq (.seq (R [c0 52 (.mov 0 (.s 10)), c0 53 (.ld false 1 (.s 52)), cb 54 (.bin .neq .any (.s 53) (.c (ki .i64 0)))] [1, 2, 7, 8, 10, 15, 18, 54]) (.ite (.s 54) (.seq (R [cb 55 (.mv (.s 7)), cb 56 (.mv (.s 55)), cg 57 56 true (.mov 3 (.s 10)), cg 58 56 true (.ld false 1 (.s 57)), cg 59 56 true (.len 1 (.s 58)), ch 60 56 true (.bin .eql .any (.s 59) (.c (ki .i64 0))), cb 61 (.pick (.s 56) (.s 60) (.c (kb false))), cb 6 (.tk (.s 61))] [6, 10, 15, 18]) (.ret)) (.skip))) (.seq (R [cb 11 (.tk (.c (kb false)))] [1, 2, 7, 8, 10, 11, 15, 18]) (.seq (.seq (R [c0 12 (.tk (.c (ki .i64 0)))] [1, 2, 7, 8, 10, 11, 12, 15, 18]) (.block 2 (LP [1, 2, 7, 8, 10, 11, 12, 15, 18] (.seq (.seq (R [c0 62 (.mv (.s 12)), c0 63 (.mov 3 (.s 10)), c0 64 (.ld false 1 (.s 63)), c0 65 (.len 1 (.s 64)), cb 66 (.bin .lss .any (.s 62) (.s 65))] [1, 2, 7, 8, 10, 11, 12, 15, 18, 66]) (.ite (.s 66) (.skip) (.exit 2))) (.seq (.block 3 (.seq (RD [cd (some 70) false none (.mv (.s 1)) false false [1], cd (some 71) false none (.call none (.c (kf 27)) [(.s 70)]) false false [70], cd (some 72) false none (.mov 3 (.s 10)) false false [10], cd (some 73) false none (.ld false 1 (.s 72)) false false [72], cd (some 74) false none (.mv (.s 12)) false false [12], cd (some 75) false none (.ixp 1 (.s 73) (.s 74)) false false [73, 74], cd (some 76) false none (.ld false 1 (.s 75)) false false [75], cd (some 77) false none (.bsl 1 [(.s 76)]) false false [76], cd (some 78) false none (.app 1 18 true (.s 71) (.s 77)) false false [71, 77], cd (some 79) false none (.call none (.c (kf 26)) [(.s 78)]) false false [78], cd (some 69) false none (.mv (.s 79)) false false [79], cd (some 80) false none (.ext (.s 69) 0) false false [69], cd (some 81) false none (.ext (.s 69) 1) false false [69], cd (some 13) false none (.mv (.s 80)) false false [80], cd (some 14) false none (.mv (.s 81)) false false [81]] [1, 2, 7, 8, 10, 11, 12, 13, 14, 15, 18] [72, 75]) (.seq (R [c0 82 (.mv (.s 8)), c0 83 (.mv (.s 13)), c0 84 (.bld [ki .i64 0, ki .i64 0, ki .i64 0, ks [], ks [], ki .i64 0, ki .i64 0, ki .i64 0] [(2, 1, (.c (ki .i64 4))), (3, 1, (.s 83))]), c0 85 (.call none (.c (kf 17)) [(.s 82), (.s 84)]), c0 15 (.new false (.c (.agg [ki .i64 0, ks [], ki .i64 0, kn 1]))), cn (.st 4 (.s 15) (.s 85))] [1, 2, 7, 8, 10, 11, 12, 14, 15, 18]) (.seq (.seq (RD (cd (some 86) false none (.mv (.s 14)) false false [14] :: cd (some 87) true none (.bin .neq .any (.s 86) (.c (ki .i64 0))) false false [86] :: cd (some 88) true none (.mv (.s 87)) false false [87] :: cd (some 89) false (some (88, false)) (.mov 0 (.s 15)) false false [15] :: cd (some 90) false (some (88, false)) (.ld false 1 (.s 89)) false false [89] :: cd (some 91) true (some (88, false)) (.bin .neq .any (.s 90) (.c (ki .i64 0))) false false [90] :: cd (some 92) true none (.pick (.s 88) (.c (kb true)) (.s 91)) false false [88, 91] :: cd (some 93) true none (.mv (.s 92)) false false [92] :: cd (some 94) false (some (93, false)) (.mv (.s 12)) false false [12] :: cd (some 95) true (some (93, false)) (.bin .gtr .any (.s 94) (.c (ki .i64 0))) false false [94] :: cd (some 96) true (some (93, false)) (.mv (.s 95)) false false [95] :: cd (some 97) false (some (96, true)) (.mov 3 (.s 10)) false false [10] :: cd (some 98) false (some (96, true)) (.ld false 1 (.s 97)) false false [97] :: cd (some 99) false (some (96, true)) (.mv (.s 12)) false false [12] :: cd (some 100) false (some (96, true)) (.bin .sub .any (.s 99) (.c (ki .i64 1))) false false [99] :: cd (some 101) false (some (96, true)) (.ixp 1 (.s 98) (.s 100)) false false [98, 100] :: cd (some 102) false (some (96, true)) (.ld false 1 (.s 101)) false false [101] :: cd (some 103) false (some (96, true)) (.mov 3 (.s 10)) false false [10] :: cd (some 104) false (some (96, true)) (.ld false 1 (.s 103)) false false [103] :: cd (some 105) false (some (96, true)) (.mv (.s 12)) false false [12] :: cd (some 106) false (some (96, true)) (.ixp 1 (.s 104) (.s 105)) false false [104, 105] :: cd (some 107) false (some (96, true)) (.ld false 1 (.s 106)) false false [106] :: cd (some 108) true (some (96, true)) (.bin .geq .any (.s 102) (.s 107)) false false [102, 107] :: cd (some 109) true (some (93, false)) (.pick (.s 96) (.s 108) (.c (kb false))) false false [96, 108] :: cd (some 110) true none (.pick (.s 93) (.c (kb true)) (.s 109)) false false [93, 109] :: []) [1, 2, 7, 8, 10, 11, 12, 15, 18, 110] []) (.ite (.s 110) (.seq (R [cb 6 (.tk (.c (kb false)))] [6, 10, 15, 18]) (.ret)) (.skip))) (R [cb 111 (.mv (.s 11)), cb 112 (.mv (.s 111)), cg 113 112 false (.mov 3 (.s 10)), cg 114 112 false (.ld false 1 (.s 113)), cg 115 112 false (.mv (.s 12)), cg 116 112 false (.ixp 1 (.s 114) (.s 115)), cg 117 112 false (.ld false 1 (.s 116)), cg 118 112 false (.mv (.s 2)), ch 119 112 false (.bin .eql .any (.s 117) (.s 118)), cb 120 (.pick (.s 112) (.c (kb true)) (.s 119)), cb 11 (.tk (.s 120))] [1, 2, 7, 8, 10, 11, 12, 15, 18]))))) (R [c0 67 (.mv (.s 12)), c0 68 (.bin .add .any (.s 67) (.c (ki .i64 1))), c0 12 (.tk (.s 68))] [1, 2, 7, 8, 10, 11, 12, 15, 18])))))) (.seq (R [c0 122 (.mv (.s 1)), c0 123 (.call none (.c (kf 27)) [(.s 122)]), c0 124 (.mv (.s 2)), c0 125 (.bsl 1 [(.s 124)]), c0 126 (.app 1 18 true (.s 123) (.s 125)), c0 127 (.call none (.c (kf 26)) [(.s 126)]), c0 121 (.tk (.s 127)), c0 128 (.exh (.s 121)), c0 129 (.ext (.s 121) 1), c0 16 (.tk (.s 128)), c0 17 (.tk (.s 129))] [7, 8, 10, 11, 15, 16, 17, 18]) (.seq (R [c0 130 (.mv (.s 8)), c0 131 (.mv (.s 16)), c0 132 (.bld [ki .i64 0, ki .i64 0, ki .i64 0, ks [], ks [], ki .i64 0, ki .i64 0, ki .i64 0] [(2, 1, (.c (ki .i64 4))), (3, 1, (.s 131))]), c0 133 (.call none (.c (kf 17)) [(.s 130), (.s 132)]), c0 18 (.new false (.c (.agg [ki .i64 0, ks [], ki .i64 0, kn 1]))), cn (.st 4 (.s 18) (.s 133))] [7, 10, 11, 15, 17, 18]) (.seq (R [cb 134 (.mv (.s 7)), cb 135 (.mv (.s 134)), cg 136 135 true (.mv (.s 17)), ch 137 135 true (.bin .eql .any (.s 136) (.c (ki .i64 0))), ch 138 135 true (.mv (.s 137)), cg 139 138 true (.mov 0 (.s 18)), cg 140 138 true (.ld false 1 (.s 139)), ch 141 138 true (.bin .eql .any (.s 140) (.c (ki .i64 0))), ch 142 135 true (.pick (.s 138) (.s 141) (.c (kb false))), ch 143 135 true (.mv (.s 11)), ch 144 135 true (.bin .eql .bool (.s 142) (.s 143)), cb 145 (.pick (.s 135) (.s 144) (.c (kb false))), cb 6 (.tk (.s 145))] [6, 10, 15, 18]) (.ret)))))))))))))
theorem fun10 : Fun Try.prog cfg 10 146 cd10 [.s 6] := ⟨rfl, Try.f10, _, Try.func10, rfl, rfl, by kernel_rfl, by kernel_rfl⟩
@[go_sem] theorem ok10 : calleeOK Try.prog 10 = true := by kernel_rfl
@[go_sem] theorem ex10 : (cfg.ext 10).isSome = false := rfl
variable {h : DHeap}
theorem ts_get (l : List Str) (i : Nat) (h : i < (ts l).length) : (ts l)[i] = [vs (l[i]'(by simpa [ts] using h))] := by simp [ts]
theorem take_mem (l : List Str) (x : Str) (i : Nat) (hi : i < l.length) : decide (x ∈ l.take (i + 1)) = (decide (x ∈ l.take i) || decide (l[i] = x)) := by
  rw [List.take_succ_eq_append_getElem hi, Bool.eq_iff_iff]
  simp only [List.mem_append, List.mem_singleton, decide_eq_true_eq, Bool.or_eq_true]
  exact or_congr Iff.rfl eq_comm
theorem childs_iff {es : Dir} {p s : Str} : s ∈ childs es p ↔ ∃ k ∈ keys es, parentP k = p ∧ lastP k = s := by
  unfold childs
  rw [sortC_mem']
  simp only [List.mem_map, List.mem_filter, decide_eq_true_eq]
  constructor
  · rintro ⟨k, ⟨h1, h2⟩, h3⟩; exact ⟨k, h1, h2, h3⟩
  · rintro ⟨k, h1, h2, h3⟩; exact ⟨k, ⟨h1, h2⟩, h3⟩
/-- A path by its parent, and its last name. -/
theorem path_split {k p : Str} {lk lp : List Str} (hk : parse k = some lk) (h0 : lk ≠ []) (hp : parse p = some lp) (h : parentP k = p) : lk = lp ++ [lastP k] ∧ pathOf (lp ++ [lastP k]) = k := by
  have h1 := (parse_parent hk h0).1
  rw [h, hp] at h1
  have e1 : lp = lk.dropLast := Option.some.inj h1
  have hn : namesP k = lk := by simp [namesP, hk]
  have e2 : lastP k = lk.getLast h0 := by simp [lastP, hn, List.getLast?_eq_some_getLast h0]
  have e3 : lk = lp ++ [lastP k] := by rw [e1, e2, List.dropLast_concat_getLast]
  exact ⟨e3, by rw [← e3]; exact (parse_some hk).2.symm⟩
theorem path_join {p s : Str} {lp : List Str} (hok : okL (lp ++ [s]) = true) (hp : parse p = some lp) : parse (pathOf (lp ++ [s])) = some (lp ++ [s]) ∧ parentP (pathOf (lp ++ [s])) = p ∧ lastP (pathOf (lp ++ [s])) = s ∧ pathOf (lp ++ [s]) ≠ [47] := by
  have h1 := parse_pathOf hok
  have hn : namesP (pathOf (lp ++ [s])) = lp ++ [s] := by simp [namesP, h1]
  refine ⟨h1, ?_, ?_, ?_⟩
  · simp only [parentP, hn]; simp; exact (parse_some hp).2.symm
  · simp [lastP, hn]
  · intro e; rw [e, parse_root] at h1; cases lp <;> simp at h1
/-- Who is listed. -/
theorem lists_iff {n m : Nat} {es : Dir} (O : DirOK n m es) {p s : Str} {lp : List Str} (hp : parse p = some lp) : s ∈ childs es p ↔ okL (lp ++ [s]) = true ∧ pathOf (lp ++ [s]) ∈ keys es := by
  rw [childs_iff]
  constructor
  · rintro ⟨k, hk, h1, rfl⟩
    obtain ⟨lk, hl, h0⟩ := O.path k hk
    obtain ⟨e1, e2⟩ := path_split hl h0 hp h1
    rw [e2]
    exact ⟨e1 ▸ (parse_some hl).1, hk⟩
  · rintro ⟨hok, hk⟩
    obtain ⟨_, h2, h3, _⟩ := path_join hok hp
    exact ⟨_, hk, h2, h3⟩
theorem lists_get {n m : Nat} {es : Dir} (O : DirOK n m es) {p s : Str} {lp : List Str} (hp : parse p = some lp) (hok : okL (lp ++ [s]) = true) : (getR es (pathOf (lp ++ [s]))).err = if s ∈ childs es p then 0 else 2 := by
  obtain ⟨h1, h2, h3, h4⟩ := path_join hok hp
  by_cases h : s ∈ childs es p
  · rw [if_pos h]
    have hk := ((lists_iff O hp).1 h).2
    rw [getR_there h1 (thereB_iff.2 (.inl hk))]
  · rw [if_neg h]
    have hk : thereB es (pathOf (lp ++ [s])) = false := by
      cases ht : thereB es (pathOf (lp ++ [s]))
      · rfl
      · rcases thereB_iff.1 ht with h5 | h5
        · exact absurd ((lists_iff O hp).2 ⟨hok, h5⟩) h
        · exact absurd h5 h4
    rw [getR_not h1 hk]
theorem childs_nodup {n m : Nat} {es : Dir} (O : DirOK n m es) {p : Str} {lp : List Str} (hp : parse p = some lp) : (childs es p).Nodup := by
  unfold childs
  refine sortC_nodup ?_
  unfold List.Nodup
  rw [List.pairwise_map]
  refine List.Pairwise.imp_of_mem ?_ (O.nodup.sublist List.filter_sublist)
  intro a b ha hb hab e
  obtain ⟨ha1, ha2⟩ := List.mem_filter.1 ha
  obtain ⟨hb1, hb2⟩ := List.mem_filter.1 hb
  simp only [decide_eq_true_eq] at ha2 hb2
  obtain ⟨la, hla, ha0⟩ := O.path a ha1
  obtain ⟨lb, hlb, hb0⟩ := O.path b hb1
  exact hab ((path_split hla ha0 hp ha2).2.symm.trans (e ▸ (path_split hlb hb0 hp hb2).2))
/-- What is listed rises. -/
theorem childs_lt {n m : Nat} {es : Dir} (O : DirOK n m es) {p : Str} {lp : List Str} (hp : parse p = some lp) {i j : Nat} (hi : i < j) (hj : j < (childs es p).length) : Op.bytesLess (childs es p)[i] (childs es p)[j] = true := by
  have h1 := (sortC_pw (cf := Lib.compareBytes) (ordOK_cmp (((keys es).filter fun k => decide (parentP k = p)).map lastP)) fun x hx => hx)
  have h2 := childs_nodup O hp
  have e1 := List.pairwise_iff_getElem.1 h1 i j (by exact Nat.lt_trans hi hj) hj hi
  have e2 := List.pairwise_iff_getElem.1 h2 i j (by omega) hj hi
  rw [← cmpB_neg, decide_eq_true_eq]
  exact Decidable.byContradiction fun h3 => e2 (cmpB_total.total _ _ h3 e1)
section
attribute [-go_sem] wp_RD
set_option maxHeartbeats 4000000 in
theorem dirLists_lim (own : Bool) (l : List Cmd) (p nm : Str) (hl : l.length ≤ 1048576) (hs : ∀ x ∈ l, x.path.length ≤ 1048576) (hp : p.length ≤ 1048576) (hn : nm.length ≤ 1048576) :
    lim Try.prog cfg 10 [.list own 8 (cms l), vs p, vs nm] h = some (vb true, h) := by
  refine lim_funp fun10 rfl (by simp) (by simp [heapFree, heapFree.all, free_cms]) rfl ?_
  delta cd10
  have w7 := works7_lim (h := [])
  have o1 := over_lim (h := []) false l (by omega)
  have n0 := new0
  cases e1 : overP l with
  | true =>
    rw [e1] at o1
    simp -implicitDefEqProofs -dsimp only [go_sem, wp_RD, w7, o1, n0]
  | false =>
  rw [e1] at o1
  by_cases e3 : (300 : Int) < (p.length : Int)
  · simp -implicitDefEqProofs -dsimp only [go_sem, wp_RD, w7, o1, n0, e3]
  by_cases e4 : (300 : Int) < (nm.length : Int)
  · simp -implicitDefEqProofs -dsimp only [go_sem, wp_RD, w7, o1, n0, e3, e4]
  simp -implicitDefEqProofs -dsimp only [go_sem, wp_RD, w7, o1, n0, e3, e4]
  have O := fun k => doAll_ok (dirOK_nil 0 0) (l.take k)
  have hq : l.length ≤ 60 := Decidable.byContradiction fun h1 => by simp [overP, Nat.not_le.1 h1] at e1
  refine wp_for (σ := Nat) (fun k => [(0, .list false 8 (cms l)), (1, vs p), (2, vs nm), (7, vb true), (8, .ptr 1 0), (9, vi (k : Nat)), (10, .junk), (15, .junk), (18, .junk)]) (fun k => hD (doAll [] (l.take k))) (fun k => l.length - k) (fun k => k ≤ l.length) 0 (Nat.zero_le _) rfl rfl ?_
  rintro k hk N hN
  have Ok := O k
  have hln : (l.take k).length = k := by rw [List.length_take]; omega
  rw [hln] at Ok
  by_cases hlt : k < l.length
  · have h1 : (k : Int) < (l.length : Int) := by omega
    have a1 := applyD Ok (by omega) (by omega) l[k] (by have := hs _ (List.getElem_mem hlt); omega)
    have hd : doAll [] (l.take (k + 1)) = (applyP (doAll [] (l.take k)) l[k]).2 := by rw [List.take_succ_eq_append_getElem hlt, doAll_snoc]
    simp -implicitDefEqProofs -dsimp only [go_sem, h1, hlt, a1]
    rw [← hd]
    refine hN (k + 1) _ (by omega) (by omega) ?_
    simp -implicitDefEqProofs -dsimp only [go_sem, wrap_succ (show k < 9223372036854775807 by omega)]
  · have h1 : ¬ (k : Int) < (l.length : Int) := by omega
    generalize hes : doAll [] (l.take k) = es at *
    have hle := Ok.len
    have g1 := applyD Ok (by omega) (by omega) (listC p) (show p.length ≤ 1099511627776 by omega)
    rw [apply_list] at g1
    cases hpa : parse p with
    | none =>
      simp only [hpa, Option.isSome_none, if_true, true_or, listC] at g1
      simp -implicitDefEqProofs -dsimp only [go_sem, wp_RD, h1, g1]
    | some lp =>
    cases hth : thereB es p with
    | false =>
      simp only [hpa, hth, Option.isSome_some, if_true, if_false, or_false, Bool.true_eq_false, listC, reduceIte] at g1
      simp -implicitDefEqProofs -dsimp only [go_sem, wp_RD, h1, g1]
    | true =>
    simp only [hpa, hth, Option.isSome_some, if_true, if_false, or_false, Bool.true_eq_false, listC, reduceIte] at g1
    have gg : ∀ q : Str, q.length ≤ 1048576 → lim Try.prog cfg 17 [.ptr 1 0, .agg [vi 0, vi 0, vi 4, vs q, vs [], vi 0, vi 0, vi 0]] (hD es) = some (repD (getR es q), hD es) := fun q hq => by
      have := applyD Ok (by omega) (by omega) (getC q) (show q.length ≤ 1099511627776 by omega)
      rw [apply_get] at this
      exact this
    have nn := names_lim (h := hD es) p (by omega)
    have hnp : namesP p = lp := by simp [namesP, hpa]
    rw [hnp] at nn
    have hlp := (parse_some hpa).1
    have hlp8 := (okL_names hlp).1
    have hlq : ∀ s, okL (lp ++ [s]) = true → (pathOf (lp ++ [s])).length ≤ 137 := fun s h => (path_len h).2
    have hof : ∀ (own : Bool) (s : Str), s.length ≤ 1048576 → lim Try.prog cfg 26 [vts own (lp ++ [s])] (hD es) = some (ofV (lp ++ [s]), hD es) := fun own s hs' => pof_lim own _ (by simp; omega) (fun x hx => by
      rcases List.mem_append.1 hx with h | h
      · have := nameOK_le ((okL_names hlp).2 x h); omega
      · rw [List.mem_singleton.1 h]; omega)
    have hin := fun s => lists_iff (s := s) Ok hpa
    have hge := fun s h => lists_get (s := s) Ok hpa h
    have hlt' := fun i j (hi : i < j) hj => childs_lt Ok hpa (i := i) (j := j) hi hj
    have hcl := childs_len es p
    have hmx : (lp.length + 1) * 18 ≤ maxLenD := by unfold maxLenD; omega
    have hCt := take_mem (childs es p) nm
    have hCl : ∀ i (hi : i < (childs es p).length), (childs es p)[i].length ≤ 1048576 := fun i hi => by
      have := nameOK_le ((okL_names ((hin _).1 (List.getElem_mem hi)).1).2 (childs es p)[i] (by simp))
      omega
    have hCm : ∀ i (hi : i < (childs es p).length), (childs es p)[i] ∈ childs es p := fun i hi => List.getElem_mem hi
    generalize hD es = H1 at hof gg nn g1 ⊢
    simp -implicitDefEqProofs -dsimp only [go_sem, wp_RD, h1, g1]
    refine wp_for (σ := Nat × DV) (fun s => [(1, vs p), (2, vs nm), (7, vb true), (8, .ptr 1 0), (10, .box [vi 0, vs [], vi 0, .list false 1 (ts (childs es p))]), (11, vb (decide (nm ∈ (childs es p).take s.1))), (12, vi (s.1 : Nat)), (15, s.2), (18, .junk)]) (fun _ => H1) (fun s => (childs es p).length - s.1) (fun s => s.1 ≤ (childs es p).length ∧ (s.2 = .junk ∨ ∃ cs, s.2 = .box cs)) (0, .junk) ⟨Nat.zero_le _, .inl rfl⟩ rfl rfl ?_
    rintro ⟨i, z⟩ ⟨hi, hz⟩ N hN
    simp only at hi hz hN ⊢
    by_cases hlt : i < (childs es p).length
    · have h2 : (i : Int) < ((childs es p).length : Int) := by omega
      have hm := hCm i hlt
      have hok := ((hin _).1 hm).1
      have hq1 := hlq _ hok
      have g2 := gg (pathOf (lp ++ [(childs es p)[i]])) (by omega)
      have g3 := hge _ hok
      rw [if_pos hm] at g3
      have f1 := fun own => hof own (childs es p)[i] (hCl i hlt)
      simp only [ofV, hok, if_true] at f1
      have hct := hCt i hlt
      generalize decide (nm ∈ (childs es p).take i) = bi at *
      simp -implicitDefEqProofs -dsimp (maxSteps := 1000000) only [go_sem, h2, hlt]
      refine wp_aside' fun Q hQ => ?_
      suffices hq : Q .normal [(1, vs p), (2, vs nm), (7, vb true), (8, .ptr 1 0), (10, .box [vi 0, vs [], vi 0, .list false 1 (ts (childs es p))]), (11, vb bi), (12, vi (i : Nat)), (13, vs (pathOf (lp ++ [(childs es p)[i]]))), (14, vi 0), (15, z), (18, .junk)] H1 by
        rcases hz with rfl | ⟨cs, rfl⟩
        · simp -implicitDefEqProofs -dsimp only [go_sem, wp_RD, hlt, nn, f1, nat_nn, hmx]
          exact hq
        · simp -implicitDefEqProofs -dsimp only [go_sem, wp_RD, hlt, nn, f1, nat_nn, hmx]
          exact hq
      refine hQ _ _ _ ?_
      have fin : ∀ a, keepA (some [1, 2, 7, 8, 10, 11, 12, 15, 18]) a = [(1, vs p), (2, vs nm), (7, vb true), (8, .ptr 1 0), (10, .box [vi 0, vs [], vi 0, .list false 1 (ts (childs es p))]), (11, vb (bi || decide ((childs es p)[i] = nm))), (12, vi ((i + 1 : Nat) : Int)), (15, .box [vi 0, vs (getR es (pathOf (lp ++ [(childs es p)[i]]))).value, vi (getR es (pathOf (lp ++ [(childs es p)[i]]))).version, .list false 1 (ts (getR es (pathOf (lp ++ [(childs es p)[i]]))).names)]), (18, .junk)] → N a H1 := fun a ha =>
        hN (i + 1, .box [vi 0, vs (getR es (pathOf (lp ++ [(childs es p)[i]]))).value, vi (getR es (pathOf (lp ++ [(childs es p)[i]]))).version, .list false 1 (ts (getR es (pathOf (lp ++ [(childs es p)[i]]))).names)]) a (by simp only; omega) ⟨by simp only; omega, .inr ⟨_, rfl⟩⟩ (by rw [ha]; simp only [hct])
      rcases hz with rfl | ⟨cs, rfl⟩
      all_goals
        simp -implicitDefEqProofs -dsimp (maxSteps := 1000000) only [go_sem, g2, g3]
        refine wp_aside' fun Q hQ => ?_
        suffices hq : Q .normal [(1, vs p), (2, vs nm), (7, vb true), (8, .ptr 1 0), (10, .box [vi 0, vs [], vi 0, .list false 1 (ts (childs es p))]), (11, vb bi), (12, vi (i : Nat)), (15, .box [vi 0, vs (getR es (pathOf (lp ++ [(childs es p)[i]]))).value, vi (getR es (pathOf (lp ++ [(childs es p)[i]]))).version, .list false 1 (ts (getR es (pathOf (lp ++ [(childs es p)[i]]))).names)]), (18, .junk), (110, vb false)] H1 by
          by_cases i0 : i = 0
          · have i1 : ¬ (0 : Int) < (i : Int) := by omega
            simp -implicitDefEqProofs -dsimp only [go_sem, wp_RD, i1]
            exact hq
          · obtain ⟨j, rfl⟩ : ∃ j, i = j + 1 := ⟨i - 1, by omega⟩
            have i1 : (0 : Int) < ((j + 1 : Nat) : Int) := by omega
            have hj : j < (childs es p).length := by omega
            have hw : IntKind.wrap .i64 (((j + 1 : Nat) : Int) - 1) = ((j : Nat) : Int) := by rw [wrap64 (by omega) (by omega)]; omega
            have hl2 := hlt' j (j + 1) (by omega) hlt
            simp -implicitDefEqProofs -dsimp (maxSteps := 600000) only [go_sem, wp_RD, i1, hw, hlt, hj, hl2, nat_nn]
            exact hq
        refine hQ _ _ _ ?_
        cases bi
        · simp -implicitDefEqProofs -dsimp only [go_sem, hlt, nat_nn, ts_get]
          constructor
          · intro he
            refine fin _ ?_
            rw [decide_eq_true he]
            simp -implicitDefEqProofs -dsimp only [go_sem, wrap_succ (show i < 9223372036854775807 by omega)]
          · intro he
            refine fin _ ?_
            rw [decide_eq_false he]
            simp -implicitDefEqProofs -dsimp only [go_sem, wrap_succ (show i < 9223372036854775807 by omega)]
        · simp -implicitDefEqProofs -dsimp only [go_sem, hlt, nat_nn, ts_get]
          refine fin _ ?_
          simp -implicitDefEqProofs -dsimp only [go_sem, wrap_succ (show i < 9223372036854775807 by omega)]
    · have h2 : ¬ (i : Int) < ((childs es p).length : Int) := by omega
      have hil : i = (childs es p).length := by omega
      subst hil
      rw [List.take_length]
      cases hok : okL (lp ++ [nm]) with
      | false =>
        have hni : decide (nm ∈ childs es p) = false := decide_eq_false fun hc => by rw [((hin nm).1 hc).1] at hok; cases hok
        rw [hni]
        have f1 := fun own => hof own nm hn
        have g2 := gg [] (by simp)
        have g3 : (getR es []).err = 1 := by simp [getR, parse_nil]
        simp only [ofV, hok, if_false, Bool.false_eq_true] at f1
        rcases hz with rfl | ⟨cs, rfl⟩ <;> simp -implicitDefEqProofs -dsimp (maxSteps := 1000000) only [go_sem, wp_RD, h2, nn, f1, g2, g3, hmx]
      | true =>
        have hq1 := hlq _ hok
        have f1 := fun own => hof own nm hn
        have g2 := gg (pathOf (lp ++ [nm])) (by omega)
        have g3 := hge _ hok
        simp only [ofV, hok, if_true] at f1
        by_cases hm : nm ∈ childs es p
        · rw [if_pos hm] at g3
          rw [decide_eq_true hm]
          rcases hz with rfl | ⟨cs, rfl⟩ <;> simp -implicitDefEqProofs -dsimp (maxSteps := 1000000) only [go_sem, wp_RD, h2, nn, f1, g2, g3, hmx]
        · rw [if_neg hm] at g3
          rw [decide_eq_false hm]
          rcases hz with rfl | ⟨cs, rfl⟩ <;> simp -implicitDefEqProofs -dsimp (maxSteps := 1000000) only [go_sem, wp_RD, h2, nn, f1, g2, g3, hmx]
end
end Go.DS

/-
  The row DirLists.
-/
namespace Go.Proofs.Ytmkghiigpffhlaa.dirLists
open Go.ChangeShapes Go.WideShapes Go.ChangeAt Go.RowKit
open Go.ChangeMaps (open_string shut_string)
open Go.DS
set_option linter.unusedVariables false
set_option linter.unusedSimpArgs false

set_option maxRecDepth 100000 in
theorem contract (H : Type) (enc : TypeId × Value → H) (W : World) (base : Nat) (args : Array Value) (ds gs : List (DataW H)) (before : List MemPlace)
    (hval0 : ∀ (j : Nat) t v, Try.f10.params[j]? = some t → args[j]? = some v → Value.okWide Try.prog W .any base t v)
    (hW : DataW.Whole enc Try.prog Try.f10.params.toList Rows.dirListsSpec.vars false W args.toList ds gs before) (hk : Rows.uptoSmall H (ds ++ gs) = true) :
    Calls Try.prog 10 args W fun e W' => ∃ v, e = .returned v ∧ Rows.dirListsSpec.post enc Try.prog Try.f10 false true false false W args v W' := by
  have hval : ∀ (j : Nat) t v, Try.f10.params[j]? = some t → args[j]? = some v → Value.okWide Try.prog W .any base t v := hval0
  have hW' := hW
  obtain ⟨p, q, hA0, hV, rfl, hfz, hnd⟩ := hW
  have hA : DataW.TrodAll enc Try.prog W 0 (fun _ => true) true Try.f10.params.toList args.toList ds p := hA0
  rw [Try.params10] at hA hval
  obtain ⟨v0, vs0, d0, ds0, p0, q0, hargs, rfl, rfl, h0, r0⟩ := trodAll_cons hA
  obtain ⟨v1, vs1, d1, ds1, p1, q1, rfl, rfl, rfl, h1, r1⟩ := trodAll_cons r0
  obtain ⟨v2, vs2, d2, ds2, p2, q2, rfl, rfl, rfl, h2, r2⟩ := trodAll_cons r1
  obtain ⟨rfl, rfl, rfl⟩ := trodAll_nil r2
  obtain rfl : args = #[v0, v1, v2] := by cases args; simp_all
  obtain ⟨rfl, rfl⟩ := trodVars_none hV
  have lt0 : ∀ x ∈ p0, x.block < W.heap.size := by obtain ⟨m, hm⟩ := h0; exact DataW.trod_lt m _ _ _ hm
  have k0 := h0
  obtain ⟨a0, y0, b0⟩ := arg_cmds (B := 1048575) (hval 0 23 v0 rfl rfl) h0 (by have hb := of_decide_eq_true hk; simp only [Rows.uptoBulkAll, List.append_nil, List.cons_append, List.nil_append] at hb; omega)
  have lt1 : ∀ x ∈ p1, x.block < W.heap.size := by obtain ⟨m, hm⟩ := h1; exact DataW.trod_lt m _ _ _ hm
  have k1 := h1
  obtain ⟨a1, rfl, rfl, rfl, y1⟩ := open_string Try.underlying9 (hval 1 9 v1 rfl rfl) h1
  have lt2 : ∀ x ∈ p2, x.block < W.heap.size := by obtain ⟨m, hm⟩ := h2; exact DataW.trod_lt m _ _ _ hm
  have k2 := h2
  obtain ⟨a2, rfl, rfl, rfl, y2⟩ := open_string Try.underlying9 (hval 2 9 v2 rfl rfl) h2
  clear hA0 hval0
  have hb := of_decide_eq_true hk
  simp only [Rows.uptoBulkAll, Rows.uptoBulk, List.append_nil] at hb
  have b1 : (bs a1).length ≤ 1048575 := by have : (bs a1).length = a1.data.toList.length := rfl; omega
  have b2 : (bs a2).length ≤ 1048575 := by have : (bs a2).length = a2.data.toList.length := rfl; omega
  refine (Go.DS.start ext_ok (dirLists_lim false a0 (bs a1) (bs a2) (by have := b0.1; omega) (fun x hx => by have := (b0.2 x hx).path; omega) (by omega) (by omega)) W (vs := #[v0, .string a1, .string a2]) (.cons (y0) (.cons (.sc _) (.cons (.sc _) (.nil _))))).mono fun e W' ⟨he, bel⟩ => ?_
  subst he
  exact ⟨_, rfl, _, _, _, [], _, [], hW', trodAll_mk1 (shut_bool Try.underlying4 _), (trodAll_cons_mk (Below.trod laidOut' (by kernel_rfl) (of_decide_eq_true (by kernel_rfl)) k0 bel lt0) (trodAll_cons_mk (Below.trod laidOut' (by kernel_rfl) (of_decide_eq_true (by kernel_rfl)) k1 bel lt1) (trodAll_cons_mk (Below.trod laidOut' (by kernel_rfl) (of_decide_eq_true (by kernel_rfl)) k2 bel lt2) trodAll_mk0))), rfl, bel.frame _, fun h => by cases h⟩

set_option maxRecDepth 100000 in
theorem lifted (os : Os) (started : os.Started) (H : Type) (enc : TypeId × Value → H) (F : Stop.Interp) :
    ReturnsInHanded {} Try.checked os 10 .any ((Rows.OpenSpec.upto Rows.dirListsSpec).pre6 enc Try.prog Try.f10 Rows.dirListsUptoRow.domain false) (((Rows.OpenSpec.upto Rows.dirListsSpec).at F).post enc Try.prog Try.f10 false true false false) := by
  refine returnsInHanded_of_cond (C := Try.checked) (s := Rows.OpenSpec.upto Rows.dirListsSpec) (k := Rows.uptoSmall) rfl own' started (by kernel_rfl) Try.func10
    (OpenSpec.witness (enc := enc) (C := Try.checked) (s := Rows.OpenSpec.upto Rows.dirListsSpec) (k := Rows.uptoSmall) rfl false ⟨#[], #[.slice none 0 0, .string ByteArray.empty, .string ByteArray.empty], []⟩ 8 (by kernel_rfl) (by kernel_rfl) (by kernel_rfl)
      (x := ([.nil, .lit (.string []), .lit (.string [])], [], [])) (by kernel_rfl) rfl (by kernel_rfl)) ?_
  intro W base args ds gs before hval hW _ hk _
  exact contract H enc W base args ds gs before hval hW hk

theorem over : Rows.dirListsUptoRow.holds Try.pinned (Rows.OpenSpec.upto Rows.dirListsSpec) :=
  OpenClaim.holds_of_cond 10 Try.f10 rfl rfl rfl rfl rfl rfl rfl ⟨rfl, rfl, rfl, rfl, rfl⟩ rfl rfl rfl rfl rfl (by kernel_rfl) Try.func10 (by kernel_rfl)
    (of_decide_eq_true (by kernel_rfl)) (by unfold Func.isWrapper; first | (rw [if_pos (by decide +kernel)]; kernel_rfl) | (rw [if_neg (by decide +kernel)]; exact ⟨rfl, rfl⟩))
    (fun os started H enc _ F => lifted os started H enc F)

theorem proved : Rows.DirListsUptoSaid := over
#print axioms proved
end Go.Proofs.Ytmkghiigpffhlaa.dirLists
namespace Go.Proofs.Ytmkghiigpffhlaa
theorem dirLists_holds : Rows.DirListsUptoSaid := dirLists.proved
end Go.Proofs.Ytmkghiigpffhlaa
