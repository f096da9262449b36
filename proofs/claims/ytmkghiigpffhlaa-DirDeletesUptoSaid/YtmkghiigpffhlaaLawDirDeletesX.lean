/-
  Walks: the law DirDeletes.
-/
import Derived.Test.YtmkghiigpffhlaaH9
import Derived.WalkKit
import Derived.ProofKit
import Derived.OpenShut
import Derived.ShutString
import Derived.ChangeOld
import Derived.Below
import Derived.JoinedCond
import Derived.Carry
set_option linter.unusedSimpArgs false
set_option linter.unusedVariables false
namespace Go.DS
open Go Go.Proofs
set_option maxRecDepth 100000
set_option linter.unusedVariables false
set_option linter.unusedSimpArgs false
def cd8 : Cd := .seq (R [cb 6 (.tk (.c (kb false)))] [0, 1, 2, 10, 11, 12, 13]) (.seq (R [cb 14 (.call none (.c (kf 12)) []), cb 7 (.tk (.s 14))] [0, 1, 2, 7, 10, 11, 12, 13]) (.seq (.seq (R [cb 15 (.mv (.s 7)), cb 16 (.un .not (.s 15))] [0, 1, 2, 7, 10, 11, 12, 13, 16]) (.ite (.s 16) (.seq (R [cb 6 (.tk (.c (kb false)))] [6, 10, 11, 12, 13]) (.ret)) (.skip))) (.seq (.seq (R [c0 17 (.mv (.s 0)), cb 18 (.call none (.c (kf 13)) [(.s 17)]), cb 19 (.mv (.s 18)), cg 20 19 false (.mv (.s 1)), cg 21 19 false (.len 0 (.s 20)), ch 22 19 false (.bin .gtr .any (.s 21) (.c (ki .i64 300))), cb 23 (.pick (.s 19) (.c (kb true)) (.s 22)), cb 24 (.mv (.s 23)), cg 25 24 false (.mv (.s 2)), cg 26 24 false (.len 0 (.s 25)), ch 27 24 false (.bin .gtr .any (.s 26) (.c (ki .i64 64))), cb 28 (.pick (.s 24) (.c (kb true)) (.s 27))] [0, 1, 2, 7, 10, 11, 12, 13, 28]) (.ite (.s 28) (.seq (R [cb 29 (.tk (.s 7)), cb 6 (.tk (.s 29))] [6, 10, 11, 12, 13]) (.ret)) (.skip))) (.seq (R [c0 30 (.call none (.c (kf 23)) []), c0 8 (.tk (.s 30))] [0, 1, 2, 7, 8, 10, 11, 12, 13]) (.seq (.seq (R [c0 9 (.tk (.c (ki .i64 0)))] [0, 1, 2, 7, 8, 9, 10, 11, 12, 13]) (.block 0 (LP [0, 1, 2, 7, 8, 9, 10, 11, 12, 13] (.seq (.seq (R [c0 31 (.mv (.s 9)), c0 32 (.mv (.s 0)), c0 33 (.len 1 (.s 32)), cb 34 (.bin .lss .any (.s 31) (.s 33))] [0, 1, 2, 7, 8, 9, 10, 11, 12, 13, 34]) (.ite (.s 34) (.skip) (.exit 0))) (.seq (.block 1 (R [c0 37 (.mv (.s 8)), c0 38 (.mv (.s 0)), c0 39 (.mv (.s 9)), c0 40 (.ixp 8 (.s 38) (.s 39)), c0 41 (.ld true 8 (.s 40)), c0 42 (.call none (.c (kf 17)) [(.s 37), (.s 41)])] [0, 1, 2, 7, 8, 9, 10, 11, 12, 13])) (R [c0 35 (.mv (.s 9)), c0 36 (.bin .add .any (.s 35) (.c (ki .i64 1))), c0 9 (.tk (.s 36))] [0, 1, 2, 7, 8, 9, 10, 11, 12, 13])))))) (.seq (R [c0 43 (.mv (.s 8)), c0 44 (.mv (.s 1)), c0 45 (.bld [ki .i64 0, ki .i64 0, ki .i64 0, ks [], ks [], ki .i64 0, ki .i64 0, ki .i64 0] [(2, 1, (.c (ki .i64 5))), (3, 1, (.s 44))]), c0 46 (.call none (.c (kf 17)) [(.s 43), (.s 45)]), c0 10 (.new false (.c (.agg [ki .i64 0, ks [], ki .i64 0, kn 1]))), cn (.st 4 (.s 10) (.s 46))] [1, 2, 7, 8, 10, 11, 12, 13]) (.seq (R [c0 47 (.mv (.s 8)), c0 48 (.mv (.s 1)), c0 49 (.bld [ki .i64 0, ki .i64 0, ki .i64 0, ks [], ks [], ki .i64 0, ki .i64 0, ki .i64 0] [(2, 1, (.c (ki .i64 2))), (3, 1, (.s 48))]), c0 50 (.call none (.c (kf 17)) [(.s 47), (.s 49)]), c0 11 (.new false (.c (.agg [ki .i64 0, ks [], ki .i64 0, kn 1]))), cn (.st 4 (.s 11) (.s 50))] [1, 2, 7, 8, 10, 11, 12, 13]) (.seq (.seq (R [c0 51 (.mov 0 (.s 10)), c0 52 (.ld false 1 (.s 51)), cb 53 (.bin .neq .any (.s 52) (.c (ki .i64 0))), cb 54 (.mv (.s 53)), cg 55 54 false (.mv (.s 1)), ch 56 54 false (.bin .eql .any (.s 55) (.c (ks [47]))), cb 57 (.pick (.s 54) (.c (kb true)) (.s 56))] [1, 2, 7, 8, 10, 11, 12, 13, 57]) (.ite (.s 57) (.seq (R [cb 58 (.mv (.s 7)), cb 59 (.mv (.s 58)), cg 60 59 true (.mov 0 (.s 11)), cg 61 59 true (.ld false 1 (.s 60)), ch 62 59 true (.bin .neq .any (.s 61) (.c (ki .i64 0))), cb 63 (.pick (.s 59) (.s 62) (.c (kb false))), cb 6 (.tk (.s 63))] [6, 10, 11, 12, 13]) (.ret)) (.skip))) (.seq (.seq (R [c0 64 (.mov 3 (.s 10)), c0 65 (.ld false 1 (.s 64)), c0 66 (.len 1 (.s 65)), cb 67 (.bin .gtr .any (.s 66) (.c (ki .i64 0)))] [1, 2, 7, 8, 10, 11, 12, 13, 67]) (.ite (.s 67) (.seq (R [cb 68 (.mv (.s 7)), cb 69 (.mv (.s 68)), cg 70 69 true (.mov 0 (.s 11)), cg 71 69 true (.ld false 1 (.s 70)), ch 72 69 true (.bin .eql .any (.s 71) (.c (ki .i64 4))), cb 73 (.pick (.s 69) (.s 72) (.c (kb false))), cb 6 (.tk (.s 73))] [6, 10, 11, 12, 13]) (.ret)) (.skip))) (.seq (R [c0 74 (.mv (.s 8)), c0 75 (.mv (.s 1)), c0 76 (.mv (.s 2)), c0 77 (.bld [ki .i64 0, ki .i64 0, ki .i64 0, ks [], ks [], ki .i64 0, ki .i64 0, ki .i64 0] [(2, 1, (.c (ki .i64 1))), (3, 1, (.s 75)), (4, 1, (.s 76))]), c0 78 (.call none (.c (kf 17)) [(.s 74), (.s 77)]), c0 12 (.new false (.c (.agg [ki .i64 0, ks [], ki .i64 0, kn 1]))), cn (.st 4 (.s 12) (.s 78))] [1, 2, 7, 8, 10, 11, 12, 13]) (.seq (R [c0 79 (.mv (.s 8)), c0 80 (.mv (.s 1)), c0 81 (.bld [ki .i64 0, ki .i64 0, ki .i64 0, ks [], ks [], ki .i64 0, ki .i64 0, ki .i64 0] [(2, 1, (.c (ki .i64 4))), (3, 1, (.s 80))]), c0 82 (.call none (.c (kf 17)) [(.s 79), (.s 81)]), c0 13 (.new false (.c (.agg [ki .i64 0, ks [], ki .i64 0, kn 1]))), cn (.st 4 (.s 13) (.s 82))] [2, 7, 10, 11, 12, 13]) (.seq (R (cb 83 (.mv (.s 7)) :: cb 84 (.mv (.s 83)) :: cg 85 84 true (.mov 0 (.s 11)) :: cg 86 84 true (.ld false 1 (.s 85)) :: ch 87 84 true (.bin .eql .any (.s 86) (.c (ki .i64 0))) :: cb 88 (.pick (.s 84) (.s 87) (.c (kb false))) :: cb 89 (.mv (.s 88)) :: cg 90 89 true (.mov 0 (.s 12)) :: cg 91 89 true (.ld false 1 (.s 90)) :: ch 92 89 true (.bin .eql .any (.s 91) (.c (ki .i64 0))) :: cb 93 (.pick (.s 89) (.s 92) (.c (kb false))) :: cb 94 (.mv (.s 93)) :: cg 95 94 true (.mov 2 (.s 12)) :: cg 96 94 true (.ld false 1 (.s 95)) :: ch 97 94 true (.bin .eql .any (.s 96) (.c (ki .i64 1))) :: cb 98 (.pick (.s 94) (.s 97) (.c (kb false))) :: cb 99 (.mv (.s 98)) :: cg 100 99 true (.mov 1 (.s 13)) :: cg 101 99 true (.ld false 1 (.s 100)) :: cg 102 99 true (.mv (.s 2)) :: ch 103 99 true (.bin .eql .any (.s 101) (.s 102)) :: cb 104 (.pick (.s 99) (.s 103) (.c (kb false))) :: cb 105 (.mv (.s 104)) :: cg 106 105 true (.mov 2 (.s 13)) :: cg 107 105 true (.ld false 1 (.s 106)) :: ch 108 105 true (.bin .eql .any (.s 107) (.c (ki .i64 1))) :: cb 109 (.pick (.s 105) (.s 108) (.c (kb false))) :: cb 6 (.tk (.s 109)) :: []) [6, 10, 11, 12, 13]) (.ret)))))))))))))
theorem fun8 : Fun Try.prog cfg 8 110 cd8 [.s 6] := ⟨rfl, Try.f8, _, Try.func8, rfl, rfl, by kernel_rfl, by kernel_rfl⟩
@[go_sem] theorem ok8 : calleeOK Try.prog 8 = true := by kernel_rfl
@[go_sem] theorem ex8 : (cfg.ext 8).isSome = false := rfl
variable {h : DHeap}
/-- Deleting: what it needs, and what comes of it. -/
def listC (p : Str) : Cmd := ⟨0, 0, 5, p, [], 0, 0, 0⟩
def delC (p : Str) : Cmd := ⟨0, 0, 2, p, [], 0, 0, 0⟩
def createC (p v : Str) : Cmd := ⟨0, 0, 1, p, v, 0, 0, 0⟩
theorem apply_list {es : Dir} {p : Str} : applyP es (listC p) = (if (parse p).isSome = false then { err := 1 } else if thereB es p = false then { err := 2 } else { names := childs es p }, es) := by
  unfold applyP listC
  cases h : (parse p).isSome <;> cases h2 : thereB es p <;> simp [rightB, h, h2]
theorem apply_del {es : Dir} {p : Str} : applyP es (delC p) = (if (parse p).isSome = false ∨ p = [47] then ({ err := 1 }, es) else if thereB es p = false then ({ err := 2 }, es) else if childs es p ≠ [] then ({ err := 4 }, es) else ({}, adel p es)) := by
  unfold applyP delC removeP
  by_cases h1 : p = [47]
  · simp [rightB, h1]
  · cases h : (parse p).isSome <;> cases h2 : thereB es p <;> simp [rightB, h, h2, h1]
theorem deletes_plain {n m : Nat} {es : Dir} (O : DirOK n m es) {p v : Str} {l : List Str} (hl : parse p = some l) (ht : thereB es p = true) (hr : p ≠ [47]) (hc : childs es p = []) (hv : v.length ≤ 64) :
    applyP (adel p es) (createC p v) = ({ version := 1 }, aset p (v, 1) (adel p es)) ∧ getR (aset p (v, 1) (adel p es)) p = { value := v, version := 1 } := by
  have hk : p ∈ keys es := (thereB_iff.1 ht).resolve_right hr
  have hp := parse_parent hl (parse_ne hl hr)
  have hne : parentP p ≠ p := fun e => by
    have := parent_less hl (parse_ne hl hr)
    rw [e] at this
    exact less_asym this this
  have hup : thereB (adel p es) (parentP p) = true := by
    rw [thereB_iff]
    rcases O.up p hk with h | h
    · exact .inr h
    · left
      rw [keys_del O.nodup]
      exact List.mem_filter.2 ⟨h, by simp [hne]⟩
  refine ⟨?_, ?_⟩
  · have h1 : thereB (adel p es) p = false := there_del O.nodup hr
    simp [applyP, createC, createP, rightB, hl, hv, h1, hup]
  · rw [getR_there hl (there_set _ _ _), cur_set]
set_option maxHeartbeats 2000000 in
theorem dirDeletes_lim (own : Bool) (l : List Cmd) (p v : Str) (hl : l.length ≤ 1048576) (hs : ∀ x ∈ l, x.path.length ≤ 1048576) (hp : p.length ≤ 1048576) :
    lim Try.prog cfg 8 [.list own 8 (cms l), vs p, vs v] h = some (vb true, h) := by
  refine lim_funp fun8 rfl (by simp) (by simp [heapFree, heapFree.all, free_cms]) rfl ?_
  delta cd8
  have w7 := works7_lim (h := [])
  have o1 := over_lim (h := []) false l (by omega)
  have n0 := new0
  cases e1 : overP l with
  | true =>
    rw [e1] at o1
    simp -implicitDefEqProofs -dsimp only [go_sem, wp_RD, w7, o1, n0]
  | false =>
  rw [e1] at o1
  by_cases e3 : (300 : Int) < (p.length : Int)
  · simp -implicitDefEqProofs -dsimp only [go_sem, wp_RD, w7, o1, n0, e3]
  by_cases e4 : (64 : Int) < (v.length : Int)
  · simp -implicitDefEqProofs -dsimp only [go_sem, wp_RD, w7, o1, n0, e3, e4]
  simp -implicitDefEqProofs -dsimp only [go_sem, wp_RD, w7, o1, n0, e3, e4]
  have O := fun k => doAll_ok (dirOK_nil 0 0) (l.take k)
  have hq : l.length ≤ 60 := Decidable.byContradiction fun h1 => by simp [overP, Nat.not_le.1 h1] at e1
  refine wp_for (σ := Nat) (fun k => [(0, .list false 8 (cms l)), (1, vs p), (2, vs v), (7, vb true), (8, .ptr 1 0), (9, vi (k : Nat)), (10, .junk), (11, .junk), (12, .junk), (13, .junk)]) (fun k => hD (doAll [] (l.take k))) (fun k => l.length - k) (fun k => k ≤ l.length) 0 (Nat.zero_le _) rfl rfl ?_
  rintro k hk N hN
  have Ok := O k
  have hln : (l.take k).length = k := by rw [List.length_take]; omega
  rw [hln] at Ok
  by_cases hlt : k < l.length
  · have h1 : (k : Int) < (l.length : Int) := by omega
    have a1 := applyD Ok (by omega) (by omega) l[k] (by have := hs _ (List.getElem_mem hlt); omega)
    have hd : doAll [] (l.take (k + 1)) = (applyP (doAll [] (l.take k)) l[k]).2 := by rw [List.take_succ_eq_append_getElem hlt, doAll_snoc]
    simp -implicitDefEqProofs -dsimp only [go_sem, h1, hlt, a1]
    rw [← hd]
    refine hN (k + 1) _ (by omega) (by omega) ?_
    simp -implicitDefEqProofs -dsimp only [go_sem, wrap_succ (show k < 9223372036854775807 by omega)]
  · have h1 : ¬ (k : Int) < (l.length : Int) := by omega
    generalize hes : doAll [] (l.take k) = es at *
    have hle := Ok.len
    have g1 := applyD Ok (by omega) (by omega) (listC p) (show p.length ≤ 1099511627776 by omega)
    have g2 := applyD Ok (by omega) (by omega) (delC p) (show p.length ≤ 1099511627776 by omega)
    have Ok1 := applyP_ok Ok (delC p)
    have g3 := applyD Ok1 (by omega) (by omega) (createC p v) (show p.length ≤ 1099511627776 by omega)
    have Ok2 := applyP_ok Ok1 (createC p v)
    have g4 := applyD Ok2 (by omega) (by omega) (getC p) (show p.length ≤ 1099511627776 by omega)
    rw [apply_get] at g4
    rw [apply_list] at g1
    rw [apply_del] at g2 g3 g4
    cases hpa : parse p with
    | none =>
      simp only [hpa, Option.isSome_none, if_true, true_or, listC, delC] at g1 g2
      simp -implicitDefEqProofs -dsimp only [go_sem, wp_RD, h1, g1, g2]
    | some lp =>
    cases hth : thereB es p with
    | false =>
      by_cases hr : p = [47]
      · subst hr; simp [thereB] at hth
      simp only [hpa, hth, hr, Option.isSome_some, if_true, if_false, or_false, Bool.true_eq_false, listC, delC, reduceIte] at g1 g2
      simp -implicitDefEqProofs -dsimp only [go_sem, wp_RD, h1, g1, g2]
    | true =>
    by_cases hr : p = [47]
    · simp only [hpa, hth, hr, Option.isSome_some, if_true, if_false, or_true, Bool.true_eq_false, listC, delC, reduceIte] at g1 g2
      subst hr
      simp -implicitDefEqProofs -dsimp only [go_sem, wp_RD, h1, g1, g2]
    by_cases hc : childs es p = []
    · have dp := deletes_plain Ok hpa hth hr hc (show v.length ≤ 64 by omega)
      simp only [hpa, hth, hr, hc, Option.isSome_some, if_true, if_false, or_false, Bool.true_eq_false, ne_eq, not_true, reduceIte, or_self] at g1 g2 g3 g4
      rw [dp.1] at g3 g4
      simp only [dp.2] at g4
      simp only [listC, delC, createC, getC] at g1 g2 g3 g4
      simp -implicitDefEqProofs -dsimp only [go_sem, wp_RD, h1, g1, g2, g3, g4, hr]
    · have hc' : (0 : Int) < ((childs es p).length : Int) := by have := List.length_pos_iff.2 hc; omega
      simp only [hpa, hth, hr, hc, Option.isSome_some, if_true, if_false, or_false, Bool.true_eq_false, ne_eq, not_false_eq_true, reduceIte, or_self, listC, delC] at g1 g2
      simp -implicitDefEqProofs -dsimp only [go_sem, wp_RD, h1, g1, g2, hr, hc']
end Go.DS

/-
  The row DirDeletes.
-/
namespace Go.Proofs.Ytmkghiigpffhlaa.dirDeletes
open Go.ChangeShapes Go.WideShapes Go.ChangeAt Go.RowKit
open Go.ChangeMaps (open_string shut_string)
open Go.DS
set_option linter.unusedVariables false
set_option linter.unusedSimpArgs false

set_option maxRecDepth 100000 in
theorem contract (H : Type) (enc : TypeId × Value → H) (W : World) (base : Nat) (args : Array Value) (ds gs : List (DataW H)) (before : List MemPlace)
    (hval0 : ∀ (j : Nat) t v, Try.f8.params[j]? = some t → args[j]? = some v → Value.okWide Try.prog W .any base t v)
    (hW : DataW.Whole enc Try.prog Try.f8.params.toList Rows.dirDeletesSpec.vars false W args.toList ds gs before) (hk : Rows.uptoSmall H (ds ++ gs) = true) :
    Calls Try.prog 8 args W fun e W' => ∃ v, e = .returned v ∧ Rows.dirDeletesSpec.post enc Try.prog Try.f8 false true false false W args v W' := by
  have hval : ∀ (j : Nat) t v, Try.f8.params[j]? = some t → args[j]? = some v → Value.okWide Try.prog W .any base t v := hval0
  have hW' := hW
  obtain ⟨p, q, hA0, hV, rfl, hfz, hnd⟩ := hW
  have hA : DataW.TrodAll enc Try.prog W 0 (fun _ => true) true Try.f8.params.toList args.toList ds p := hA0
  rw [Try.params8] at hA hval
  obtain ⟨v0, vs0, d0, ds0, p0, q0, hargs, rfl, rfl, h0, r0⟩ := trodAll_cons hA
  obtain ⟨v1, vs1, d1, ds1, p1, q1, rfl, rfl, rfl, h1, r1⟩ := trodAll_cons r0
  obtain ⟨v2, vs2, d2, ds2, p2, q2, rfl, rfl, rfl, h2, r2⟩ := trodAll_cons r1
  obtain ⟨rfl, rfl, rfl⟩ := trodAll_nil r2
  obtain rfl : args = #[v0, v1, v2] := by cases args; simp_all
  obtain ⟨rfl, rfl⟩ := trodVars_none hV
  have lt0 : ∀ x ∈ p0, x.block < W.heap.size := by obtain ⟨m, hm⟩ := h0; exact DataW.trod_lt m _ _ _ hm
  have k0 := h0
  obtain ⟨a0, y0, b0⟩ := arg_cmds (B := 1048575) (hval 0 23 v0 rfl rfl) h0 (by have hb := of_decide_eq_true hk; simp only [Rows.uptoBulkAll, List.append_nil, List.cons_append, List.nil_append] at hb; omega)
  have lt1 : ∀ x ∈ p1, x.block < W.heap.size := by obtain ⟨m, hm⟩ := h1; exact DataW.trod_lt m _ _ _ hm
  have k1 := h1
  obtain ⟨a1, rfl, rfl, rfl, y1⟩ := open_string Try.underlying9 (hval 1 9 v1 rfl rfl) h1
  have lt2 : ∀ x ∈ p2, x.block < W.heap.size := by obtain ⟨m, hm⟩ := h2; exact DataW.trod_lt m _ _ _ hm
  have k2 := h2
  obtain ⟨a2, rfl, rfl, rfl, y2⟩ := open_string Try.underlying9 (hval 2 9 v2 rfl rfl) h2
  clear hA0 hval0
  have hb := of_decide_eq_true hk
  simp only [Rows.uptoBulkAll, Rows.uptoBulk, List.append_nil] at hb
  have b1 : (bs a1).length ≤ 1048575 := by have : (bs a1).length = a1.data.toList.length := rfl; omega
  have b2 : (bs a2).length ≤ 1048575 := by have : (bs a2).length = a2.data.toList.length := rfl; omega
  refine (Go.DS.start ext_ok (dirDeletes_lim false a0 (bs a1) (bs a2) (by have := b0.1; omega) (fun x hx => by have := (b0.2 x hx).path; omega) (by omega)) W (vs := #[v0, .string a1, .string a2]) (.cons (y0) (.cons (.sc _) (.cons (.sc _) (.nil _))))).mono fun e W' ⟨he, bel⟩ => ?_
  subst he
  exact ⟨_, rfl, _, _, _, [], _, [], hW', trodAll_mk1 (shut_bool Try.underlying4 _), (trodAll_cons_mk (Below.trod laidOut' (by kernel_rfl) (of_decide_eq_true (by kernel_rfl)) k0 bel lt0) (trodAll_cons_mk (Below.trod laidOut' (by kernel_rfl) (of_decide_eq_true (by kernel_rfl)) k1 bel lt1) (trodAll_cons_mk (Below.trod laidOut' (by kernel_rfl) (of_decide_eq_true (by kernel_rfl)) k2 bel lt2) trodAll_mk0))), rfl, bel.frame _, fun h => by cases h⟩

set_option maxRecDepth 100000 in
theorem lifted (os : Os) (started : os.Started) (H : Type) (enc : TypeId × Value → H) (F : Stop.Interp) :
    ReturnsInHanded {} Try.checked os 8 .any ((Rows.OpenSpec.upto Rows.dirDeletesSpec).pre6 enc Try.prog Try.f8 Rows.dirDeletesUptoRow.domain false) (((Rows.OpenSpec.upto Rows.dirDeletesSpec).at F).post enc Try.prog Try.f8 false true false false) := by
  refine returnsInHanded_of_cond (C := Try.checked) (s := Rows.OpenSpec.upto Rows.dirDeletesSpec) (k := Rows.uptoSmall) rfl own' started (by kernel_rfl) Try.func8
    (OpenSpec.witness (enc := enc) (C := Try.checked) (s := Rows.OpenSpec.upto Rows.dirDeletesSpec) (k := Rows.uptoSmall) rfl false ⟨#[], #[.slice none 0 0, .string ByteArray.empty, .string ByteArray.empty], []⟩ 8 (by kernel_rfl) (by kernel_rfl) (by kernel_rfl)
      (x := ([.nil, .lit (.string []), .lit (.string [])], [], [])) (by kernel_rfl) rfl (by kernel_rfl)) ?_
  intro W base args ds gs before hval hW _ hk _
  exact contract H enc W base args ds gs before hval hW hk

theorem over : Rows.dirDeletesUptoRow.holds Try.pinned (Rows.OpenSpec.upto Rows.dirDeletesSpec) :=
  OpenClaim.holds_of_cond 8 Try.f8 rfl rfl rfl rfl rfl rfl rfl ⟨rfl, rfl, rfl, rfl, rfl⟩ rfl rfl rfl rfl rfl (by kernel_rfl) Try.func8 (by kernel_rfl)
    (of_decide_eq_true (by kernel_rfl)) (by unfold Func.isWrapper; first | (rw [if_pos (by decide +kernel)]; kernel_rfl) | (rw [if_neg (by decide +kernel)]; exact ⟨rfl, rfl⟩))
    (fun os started H enc _ F => lifted os started H enc F)

theorem proved : Rows.DirDeletesUptoSaid := over
#print axioms proved
end Go.Proofs.Ytmkghiigpffhlaa.dirDeletes
namespace Go.Proofs.Ytmkghiigpffhlaa
theorem dirDeletes_holds : Rows.DirDeletesUptoSaid := dirDeletes.proved
end Go.Proofs.Ytmkghiigpffhlaa
