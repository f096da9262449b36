/-
  Walks: the law AttrValid.
-/
import Derived.Test.YtdiaecagkgbjcaaH9
import Derived.WalkKit
import Derived.ProofKit
import Derived.OpenShut
import Derived.ShutString
import Derived.ChangeOld
import Derived.Below
import Derived.JoinedCond
import Derived.Carry
set_option linter.unusedSimpArgs false
set_option linter.unusedVariables false
namespace Go.DS
open Go Go.Proofs
set_option maxRecDepth 100000
set_option linter.unusedVariables false
set_option linter.unusedSimpArgs false
def cd10 : Cd := .seq (R [c0 3 (.new false (.s 0)), c0 4 (.new false (.s 1)), c0 5 (.new false (.s 2)), cb 6 (.tk (.c (kb false)))] [3, 4, 5, 8, 9]) (.seq (R [cb 10 (.call none (.c (kf 30)) []), cb 7 (.tk (.s 10))] [3, 4, 5, 7, 8, 9]) (.seq (.seq (R [cb 11 (.mv (.s 7)), cb 12 (.un .not (.s 11))] [3, 4, 5, 7, 8, 9, 12]) (.ite (.s 12) (.seq (R [cb 6 (.tk (.c (kb false)))] [3, 4, 5, 6, 8, 9]) (.ret)) (.skip))) (.seq (.seq (R (c0 13 (.mov 1 (.s 4)) :: c0 14 (.ld false 1 (.s 13)) :: c0 15 (.len 1 (.s 14)) :: cb 16 (.bin .gtr .any (.s 15) (.c (ki .i64 40))) :: cb 17 (.mv (.s 16)) :: cg 18 17 false (.mov 1 (.s 5)) :: cg 19 17 false (.ld false 1 (.s 18)) :: cg 20 17 false (.len 1 (.s 19)) :: ch 21 17 false (.bin .gtr .any (.s 20) (.c (ki .i64 40))) :: cb 22 (.pick (.s 17) (.c (kb true)) (.s 21)) :: cb 23 (.mv (.s 22)) :: cg 24 23 false (.ld true 3 (.s 3)) :: cg 25 23 false (.ld true 2 (.s 4)) :: ch 26 23 false (.call none (.c (kf 41)) [(.s 24), (.s 25)]) :: ch 27 23 false (.un .not (.s 26)) :: cb 28 (.pick (.s 23) (.c (kb true)) (.s 27)) :: cb 29 (.mv (.s 28)) :: cg 30 29 false (.ld true 3 (.s 3)) :: cg 31 29 false (.ld true 2 (.s 5)) :: ch 32 29 false (.call none (.c (kf 41)) [(.s 30), (.s 31)]) :: ch 33 29 false (.un .not (.s 32)) :: cb 34 (.pick (.s 29) (.c (kb true)) (.s 33)) :: []) [3, 4, 5, 7, 8, 9, 34]) (.ite (.s 34) (.seq (R [cb 35 (.mv (.s 7)), cb 6 (.tk (.s 35))] [3, 4, 5, 6, 8, 9]) (.ret)) (.skip))) (.seq (R [c0 36 (.ld true 2 (.s 4)), c0 37 (.ld true 2 (.s 5)), c0 38 (.call none (.c (kf 31)) [(.s 36), (.s 37)]), c0 8 (.new false (.c (.agg [ki .i64 0, kn 3]))), cn (.st 2 (.s 8) (.s 38))] [3, 4, 5, 7, 8, 9]) (.seq (R [c0 39 (.ld true 3 (.s 3)), c0 40 (.bld [ki .i64 0, ki .i64 0, ki .i64 0, ks [], ks [], ki .i64 0, ki .i64 0, ki .i64 0] []), c0 41 (.call (some false) (.c (kf 38)) [(.c (kn 13)), (.s 39), (.s 40)]), c0 9 (.new false (.c (.agg [ki .i64 0, kn 3]))), cn (.st 2 (.s 9) (.s 41))] [3, 4, 5, 7, 8, 9]) (.seq (R (cb 42 (.mv (.s 7)) :: cb 43 (.mv (.s 42)) :: cg 44 43 true (.ld true 3 (.s 3)) :: cg 45 43 true (.ld true 2 (.s 8)) :: ch 46 43 true (.call none (.c (kf 41)) [(.s 44), (.s 45)]) :: cb 47 (.pick (.s 43) (.s 46) (.c (kb false))) :: cb 48 (.mv (.s 47)) :: cg 49 48 true (.mov 0 (.s 8)) :: cg 50 48 true (.ld false 1 (.s 49)) :: cg 51 48 true (.mov 0 (.s 4)) :: cg 52 48 true (.ld false 1 (.s 51)) :: cg 53 48 true (.mov 0 (.s 5)) :: cg 54 48 true (.ld false 1 (.s 53)) :: cg 55 48 true (.mm true (.s 52) (.s 54)) :: ch 56 48 true (.bin .eql .any (.s 50) (.s 55)) :: cb 57 (.pick (.s 48) (.s 56) (.c (kb false))) :: cb 58 (.mv (.s 57)) :: cg 59 58 true (.mov 1 (.s 8)) :: cg 60 58 true (.ld false 1 (.s 59)) :: cg 61 58 true (.len 1 (.s 60)) :: cg 62 58 true (.mov 1 (.s 4)) :: cg 63 58 true (.ld false 1 (.s 62)) :: cg 64 58 true (.len 1 (.s 63)) :: cg 65 58 true (.mov 1 (.s 5)) :: cg 66 58 true (.ld false 1 (.s 65)) :: cg 67 58 true (.len 1 (.s 66)) :: cg 68 58 true (.bin .add .any (.s 64) (.s 67)) :: ch 69 58 true (.bin .leq .any (.s 61) (.s 68)) :: cb 70 (.pick (.s 58) (.s 69) (.c (kb false))) :: cb 71 (.mv (.s 70)) :: cg 72 71 true (.mov 0 (.s 9)) :: cg 73 71 true (.ld false 1 (.s 72)) :: ch 74 71 true (.bin .eql .any (.s 73) (.c (ki .i64 1))) :: cb 75 (.pick (.s 71) (.s 74) (.c (kb false))) :: cb 76 (.mv (.s 75)) :: cg 77 76 true (.mov 1 (.s 9)) :: cg 78 76 true (.ld false 1 (.s 77)) :: cg 79 76 true (.len 1 (.s 78)) :: ch 80 76 true (.bin .eql .any (.s 79) (.c (ki .i64 0))) :: cb 81 (.pick (.s 76) (.s 80) (.c (kb false))) :: cb 6 (.tk (.s 81)) :: []) [3, 4, 5, 6, 8, 9]) (.ret)))))))
theorem fun10 : Fun Try.prog cfg 10 82 cd10 [.s 6] := ⟨rfl, Try.f10, _, Try.func10, rfl, rfl, by kernel_rfl, by kernel_rfl⟩
@[go_sem] theorem ok10 : calleeOK Try.prog 10 = true := by kernel_rfl
@[go_sem] theorem ex10 : (cfg.ext 10).isSome = false := rfl
variable {h : DHeap}
theorem local_nil (id : Id) (c : Cmd) : localP [] id c = ⟨1, []⟩ := by
  have e1 : cleanP ([] : List Id) = [] := clean_self (by simp [Rises])
  show (⟨_, cleanP []⟩ : Att) = _
  rw [e1]
  rfl
set_option maxHeartbeats 4000000 in
theorem attrValid_lim (id : Id) (a b : Att) (ha : a.deps.length ≤ 1099511627776) (hb : b.deps.length ≤ 1099511627776) :
    lim Try.prog cfg 10 [.agg [vi id.e, vi id.n, vi id.k], attD a, attD b] h = some (vb true, h) := by
  refine lim_funp fun10 rfl (by simp) (by simp [heapFree, heapFree.all, free_idr]) rfl ?_
  delta cd10
  have w1 := works11_lim (h := [])
  by_cases c1 : 40 < a.deps.length
  · have d1 : (40 : Int) < (a.deps.length : Int) := by omega
    simp -implicitDefEqProofs -dsimp (maxSteps := 1000000) only [go_sem, w1, d1]
  have d1 : ¬ (40 : Int) < (a.deps.length : Int) := by omega
  by_cases c2 : 40 < b.deps.length
  · have d2 : (40 : Int) < (b.deps.length : Int) := by omega
    simp -implicitDefEqProofs -dsimp (maxSteps := 1000000) only [go_sem, w1, d1, d2]
  have d2 : ¬ (40 : Int) < (b.deps.length : Int) := by omega
  have v1 := validA_lim (h := []) id a ha
  have v2 := validA_lim (h := []) id b hb
  cases c3 : validA id a with
  | false =>
    rw [c3] at v1
    simp -implicitDefEqProofs -dsimp (maxSteps := 1000000) only [go_sem, w1, d1, d2, v1]
  | true =>
  rw [c3] at v1
  cases c4 : validA id b with
  | false =>
    rw [c4] at v2
    simp -implicitDefEqProofs -dsimp (maxSteps := 1000000) only [go_sem, w1, d1, d2, v1, v2]
  | true =>
  rw [c4] at v2
  have m1 := merge_lim (h := []) a b (by omega)
  have l1 := merge_len a b
  have v3 := validA_lim (h := []) id (mergeP a b) (by omega)
  rw [merge_valid c3 c4 (by omega)] at v3
  have e1 : lim Try.prog cfg 38 [.list false 13 [], .agg [vi id.e, vi id.n, vi id.k], .agg [vi 0, vi 0, vi 0, vs [], vs [], vi 0, vi 0, vi 0]] [] = some (.agg [vi 1, .list false 3 []], []) := by
    have e := local_lim (h := []) false [] id ⟨0, 0, 0, [], [], 0, 0, 0⟩ (by simp) (by simp) (by simp)
    rw [local_nil] at e
    exact e
  have q1 : (mergeP a b).seq = max a.seq b.seq := rfl
  have q2 : ((mergeP a b).deps.length : Int) ≤ (a.deps.length : Int) + (b.deps.length : Int) := by omega
  have q3 : IntKind.wrap .i64 ((a.deps.length : Int) + (b.deps.length : Int)) = (a.deps.length : Int) + (b.deps.length : Int) := wrap64 (by omega) (by omega)
  generalize hm : mergeP a b = m at *
  simp -implicitDefEqProofs -dsimp (maxSteps := 1000000) only [go_sem, w1, d1, d2, v1, v2, v3, m1, e1, mmI_max, eq_true q1, q2, q3]
end Go.DS

/-
  The row AttrValid.
-/
namespace Go.Proofs.Ytdiaecagkgbjcaa.attrValid
open Go.ChangeShapes Go.WideShapes Go.ChangeAt Go.RowKit
open Go.ChangeMaps (open_string shut_string)
open Go.DS
set_option linter.unusedVariables false
set_option linter.unusedSimpArgs false

set_option maxRecDepth 100000 in
theorem contract (H : Type) (enc : TypeId × Value → H) (W : World) (base : Nat) (args : Array Value) (ds gs : List (DataW H)) (before : List MemPlace)
    (hval0 : ∀ (j : Nat) t v, Try.f10.params[j]? = some t → args[j]? = some v → Value.okWide Try.prog W .any base t v)
    (hW : DataW.Whole enc Try.prog Try.f10.params.toList Rows.attrValidSpec.vars false W args.toList ds gs before) (hk : Rows.uptoSmall H (ds ++ gs) = true) :
    Calls Try.prog 10 args W fun e W' => ∃ v, e = .returned v ∧ Rows.attrValidSpec.post enc Try.prog Try.f10 false true false false W args v W' := by
  have hval : ∀ (j : Nat) t v, Try.f10.params[j]? = some t → args[j]? = some v → Value.okWide Try.prog W .any base t v := hval0
  have hW' := hW
  obtain ⟨p, q, hA0, hV, rfl, hfz, hnd⟩ := hW
  have hA : DataW.TrodAll enc Try.prog W 0 (fun _ => true) true Try.f10.params.toList args.toList ds p := hA0
  rw [Try.params10] at hA hval
  obtain ⟨v0, vs0, d0, ds0, p0, q0, hargs, rfl, rfl, h0, r0⟩ := trodAll_cons hA
  obtain ⟨v1, vs1, d1, ds1, p1, q1, rfl, rfl, rfl, h1, r1⟩ := trodAll_cons r0
  obtain ⟨v2, vs2, d2, ds2, p2, q2, rfl, rfl, rfl, h2, r2⟩ := trodAll_cons r1
  obtain ⟨rfl, rfl, rfl⟩ := trodAll_nil r2
  obtain rfl : args = #[v0, v1, v2] := by cases args; simp_all
  obtain ⟨rfl, rfl⟩ := trodVars_none hV
  have lt0 : ∀ x ∈ p0, x.block < W.heap.size := by obtain ⟨m, hm⟩ := h0; exact DataW.trod_lt m _ _ _ hm
  have k0 := h0
  obtain ⟨a0, y0, b0⟩ := arg_id (B := 1048575) (hval 0 27 v0 rfl rfl) h0 (by have hb := of_decide_eq_true hk; simp only [Rows.uptoBulkAll, List.append_nil, List.cons_append, List.nil_append] at hb; omega)
  have lt1 : ∀ x ∈ p1, x.block < W.heap.size := by obtain ⟨m, hm⟩ := h1; exact DataW.trod_lt m _ _ _ hm
  have k1 := h1
  obtain ⟨a1, y1, b1⟩ := arg_att (B := 1048575) (hval 1 36 v1 rfl rfl) h1 (by have hb := of_decide_eq_true hk; simp only [Rows.uptoBulkAll, List.append_nil, List.cons_append, List.nil_append] at hb; omega)
  have lt2 : ∀ x ∈ p2, x.block < W.heap.size := by obtain ⟨m, hm⟩ := h2; exact DataW.trod_lt m _ _ _ hm
  have k2 := h2
  obtain ⟨a2, y2, b2⟩ := arg_att (B := 1048575) (hval 2 36 v2 rfl rfl) h2 (by have hb := of_decide_eq_true hk; simp only [Rows.uptoBulkAll, List.append_nil, List.cons_append, List.nil_append] at hb; omega)
  clear hA0 hval0
  have hb := of_decide_eq_true hk
  simp only [Rows.uptoBulkAll, Rows.uptoBulk, List.append_nil] at hb
  refine (Go.DS.start ext_ok (attrValid_lim a0 a1 a2 (by have := b1.len; omega) (by have := b2.len; omega)) W (vs := #[v0, v1, v2]) (.cons (y0) (.cons (y1) (.cons (y2) (.nil _))))).mono fun e W' ⟨he, bel⟩ => ?_
  subst he
  exact ⟨_, rfl, _, _, _, [], _, [], hW', trodAll_mk1 (shut_bool Try.underlying4 _), (trodAll_cons_mk (Below.trod laidOut' (by kernel_rfl) (of_decide_eq_true (by kernel_rfl)) k0 bel lt0) (trodAll_cons_mk (Below.trod laidOut' (by kernel_rfl) (of_decide_eq_true (by kernel_rfl)) k1 bel lt1) (trodAll_cons_mk (Below.trod laidOut' (by kernel_rfl) (of_decide_eq_true (by kernel_rfl)) k2 bel lt2) trodAll_mk0))), rfl, bel.frame _, fun h => by cases h⟩

set_option maxRecDepth 100000 in
theorem lifted (os : Os) (started : os.Started) (H : Type) (enc : TypeId × Value → H) (F : Stop.Interp) :
    ReturnsInHanded {} Try.checked os 10 .any ((Rows.OpenSpec.upto Rows.attrValidSpec).pre6 enc Try.prog Try.f10 Rows.attrValidUptoRow.domain false) (((Rows.OpenSpec.upto Rows.attrValidSpec).at F).post enc Try.prog Try.f10 false true false false) := by
  refine returnsInHanded_of_cond (C := Try.checked) (s := Rows.OpenSpec.upto Rows.attrValidSpec) (k := Rows.uptoSmall) rfl own' started (by kernel_rfl) Try.func10
    (OpenSpec.witness (enc := enc) (C := Try.checked) (s := Rows.OpenSpec.upto Rows.attrValidSpec) (k := Rows.uptoSmall) rfl false ⟨#[], #[.agg #[.int .i64 0, .int .i64 0, .int .i64 0], .agg #[.int .i64 0, .slice none 0 0], .agg #[.int .i64 0, .slice none 0 0]], []⟩ 8 (by kernel_rfl) (by kernel_rfl) (by kernel_rfl)
      (x := ([.agg [.lit (.int .i64 0), .lit (.int .i64 0), .lit (.int .i64 0)], .agg [.lit (.int .i64 0), .nil], .agg [.lit (.int .i64 0), .nil]], [], [])) (by kernel_rfl) rfl (by kernel_rfl)) ?_
  intro W base args ds gs before hval hW _ hk _
  exact contract H enc W base args ds gs before hval hW hk

theorem over : Rows.attrValidUptoRow.holds Try.pinned (Rows.OpenSpec.upto Rows.attrValidSpec) :=
  OpenClaim.holds_of_cond 10 Try.f10 rfl rfl rfl rfl rfl rfl rfl ⟨rfl, rfl, rfl, rfl, rfl⟩ rfl rfl rfl rfl rfl (by kernel_rfl) Try.func10 (by kernel_rfl)
    (of_decide_eq_true (by kernel_rfl)) (by unfold Func.isWrapper; first | (rw [if_pos (by decide +kernel)]; kernel_rfl) | (rw [if_neg (by decide +kernel)]; exact ⟨rfl, rfl⟩))
    (fun os started H enc _ F => lifted os started H enc F)

theorem proved : Rows.AttrValidUptoSaid := over
#print axioms proved
end Go.Proofs.Ytdiaecagkgbjcaa.attrValid
namespace Go.Proofs.Ytdiaecagkgbjcaa
theorem attrValid_holds : Rows.AttrValidUptoSaid := attrValid.proved
end Go.Proofs.Ytdiaecagkgbjcaa
