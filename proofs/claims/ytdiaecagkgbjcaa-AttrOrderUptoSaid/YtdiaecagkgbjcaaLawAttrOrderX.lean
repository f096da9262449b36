/-
  Walks: the law AttrOrder.
-/
import Derived.Test.YtdiaecagkgbjcaaH9
import Derived.WalkKit
import Derived.ProofKit
import Derived.OpenShut
import Derived.ShutString
import Derived.ChangeOld
import Derived.Below
import Derived.JoinedCond
import Derived.Carry
set_option linter.unusedSimpArgs false
set_option linter.unusedVariables false
namespace Go.DS
open Go Go.Proofs
set_option maxRecDepth 100000
set_option linter.unusedVariables false
set_option linter.unusedSimpArgs false
def cd8 : Cd := .seq (R [c0 4 (.new false (.s 0)), c0 5 (.new false (.s 1)), c0 6 (.new false (.s 2)), c0 7 (.new false (.s 3)), cb 8 (.mv (.c (kb false)))] [4, 5, 6, 7, 10, 11]) (.seq (R [cb 13 (.call none (.c (kf 30)) []), cb 9 (.tk (.s 13))] [4, 5, 6, 7, 9, 10, 11]) (.seq (.seq (R [cb 14 (.mv (.s 9)), cb 15 (.un .not (.s 14))] [4, 5, 6, 7, 9, 10, 11, 15]) (.ite (.s 15) (.seq (R [cb 8 (.mv (.c (kb false)))] [4, 5, 6, 7, 8, 10, 11]) (.ret)) (.skip))) (.seq (.seq (R (c0 16 (.mov 1 (.s 4)) :: c0 17 (.ld false 1 (.s 16)) :: c0 18 (.len 1 (.s 17)) :: cb 19 (.bin .gtr .any (.s 18) (.c (ki .i64 40))) :: cb 20 (.mv (.s 19)) :: cg 21 20 false (.mov 1 (.s 5)) :: cg 22 20 false (.ld false 1 (.s 21)) :: cg 23 20 false (.len 1 (.s 22)) :: ch 24 20 false (.bin .gtr .any (.s 23) (.c (ki .i64 40))) :: cb 25 (.pick (.s 20) (.c (kb true)) (.s 24)) :: cb 26 (.mv (.s 25)) :: cg 27 26 false (.mov 1 (.s 6)) :: cg 28 26 false (.ld false 1 (.s 27)) :: cg 29 26 false (.len 1 (.s 28)) :: ch 30 26 false (.bin .gtr .any (.s 29) (.c (ki .i64 40))) :: cb 31 (.pick (.s 26) (.c (kb true)) (.s 30)) :: cb 32 (.mv (.s 31)) :: cg 33 32 false (.mov 0 (.s 4)) :: cg 34 32 false (.ld false 1 (.s 33)) :: ch 35 32 false (.bin .lss .any (.s 34) (.c (ki .i64 0))) :: cb 36 (.pick (.s 32) (.c (kb true)) (.s 35)) :: cb 37 (.mv (.s 36)) :: cg 38 37 false (.mov 0 (.s 5)) :: cg 39 37 false (.ld false 1 (.s 38)) :: ch 40 37 false (.bin .lss .any (.s 39) (.c (ki .i64 0))) :: cb 41 (.pick (.s 37) (.c (kb true)) (.s 40)) :: cb 42 (.mv (.s 41)) :: cg 43 42 false (.mov 0 (.s 6)) :: cg 44 42 false (.ld false 1 (.s 43)) :: ch 45 42 false (.bin .lss .any (.s 44) (.c (ki .i64 0))) :: cb 46 (.pick (.s 42) (.c (kb true)) (.s 45)) :: []) [4, 5, 6, 7, 9, 10, 11, 46]) (.ite (.s 46) (.seq (R [cb 47 (.mv (.s 9)), cb 8 (.mv (.s 47))] [4, 5, 6, 7, 8, 10, 11]) (.ret)) (.skip))) (.seq (R [c0 48 (.ld true 2 (.s 4)), c0 49 (.ld true 2 (.s 5)), c0 50 (.call none (.c (kf 31)) [(.s 48), (.s 49)]), c0 10 (.new false (.c (.agg [ki .i64 0, kn 3]))), cn (.st 2 (.s 10) (.s 50))] [4, 5, 6, 7, 9, 10, 11]) (.seq (R [c0 51 (.ld true 2 (.s 6)), c0 52 (.ld true 2 (.s 5)), c0 53 (.ld true 2 (.s 4)), c0 54 (.bsl 2 [(.s 51), (.s 52), (.s 53)]), c0 55 (.call none (.c (kf 32)) [(.s 54)]), c0 11 (.new false (.c (.agg [ki .i64 0, kn 3]))), cn (.st 2 (.s 11) (.s 55))] [4, 5, 6, 7, 9, 10, 11]) (.seq (RD [cd (some 56) false none (.ld true 2 (.s 10)) false false [10], cd (some 57) false none (.ld true 2 (.s 5)) false false [5], cd (some 58) false none (.ld true 2 (.s 4)) false false [4], cd (some 59) false none (.call none (.c (kf 31)) [(.s 57), (.s 58)]) false false [57, 58], cd (some 60) true none (.call none (.c (kf 33)) [(.s 56), (.s 59)]) false false [56, 59], cd (some 61) true none (.mv (.s 60)) false false [60], cd (some 62) false (some (61, true)) (.ld true 2 (.s 10)) false false [10], cd (some 63) false (some (61, true)) (.ld true 2 (.s 6)) false false [6], cd (some 64) false (some (61, true)) (.call none (.c (kf 31)) [(.s 62), (.s 63)]) false false [62, 63], cd (some 65) false (some (61, true)) (.ld true 2 (.s 11)) false false [11], cd (some 66) true (some (61, true)) (.call none (.c (kf 33)) [(.s 64), (.s 65)]) false false [64, 65], cd (some 67) true none (.pick (.s 61) (.s 66) (.c (kb false))) false false [61, 66], cd (some 68) true none (.mv (.s 67)) false false [67], cd (some 69) false (some (68, true)) (.ld true 2 (.s 4)) false false [4], cd (some 70) false (some (68, true)) (.ld true 2 (.s 4)) false false [4], cd (some 71) false (some (68, true)) (.call none (.c (kf 31)) [(.s 69), (.s 70)]) false false [69, 70], cd (some 72) false (some (68, true)) (.ld true 2 (.s 4)) false false [4], cd (some 73) true (some (68, true)) (.call none (.c (kf 33)) [(.s 71), (.s 72)]) false false [71, 72], cd (some 74) true none (.pick (.s 68) (.s 73) (.c (kb false))) false false [68, 73], cd (some 12) true none (.mv (.s 74)) false false [74]] [4, 5, 6, 7, 9, 10, 11, 12] []) (.seq (RD (cd (some 75) true none (.mv (.s 9)) false false [9] :: cd (some 76) true none (.mv (.s 75)) false false [75] :: cd (some 77) true (some (76, true)) (.mv (.s 12)) false false [12] :: cd (some 78) true none (.pick (.s 76) (.s 77) (.c (kb false))) false false [76, 77] :: cd (some 79) true none (.mv (.s 78)) false false [78] :: cd (some 80) false (some (79, true)) (.mov 0 (.s 10)) false false [10] :: cd (some 81) false (some (79, true)) (.ld false 1 (.s 80)) false false [80] :: cd (some 82) false (some (79, true)) (.mov 0 (.s 4)) false false [4] :: cd (some 83) false (some (79, true)) (.ld false 1 (.s 82)) false false [82] :: cd (some 84) true (some (79, true)) (.bin .geq .any (.s 81) (.s 83)) false false [81, 83] :: cd (some 85) true none (.pick (.s 79) (.s 84) (.c (kb false))) false false [79, 84] :: cd (some 86) true none (.mv (.s 85)) false false [85] :: cd (some 87) false (some (86, true)) (.mov 0 (.s 10)) false false [10] :: cd (some 88) false (some (86, true)) (.ld false 1 (.s 87)) false false [87] :: cd (some 89) false (some (86, true)) (.mov 0 (.s 5)) false false [5] :: cd (some 90) false (some (86, true)) (.ld false 1 (.s 89)) false false [89] :: cd (some 91) true (some (86, true)) (.bin .geq .any (.s 88) (.s 90)) false false [88, 90] :: cd (some 92) true none (.pick (.s 86) (.s 91) (.c (kb false))) false false [86, 91] :: cd (some 93) true none (.mv (.s 92)) false false [92] :: cd (some 94) false (some (93, true)) (.mov 1 (.s 10)) false false [10] :: cd (some 95) false (some (93, true)) (.ld false 1 (.s 94)) false false [94] :: cd (some 96) true (some (93, true)) (.call none (.c (kf 34)) [(.s 95)]) false false [95] :: cd (some 97) true none (.pick (.s 93) (.s 96) (.c (kb false))) false false [93, 96] :: cd (some 98) true none (.mv (.s 97)) false false [97] :: cd (some 99) false (some (98, true)) (.mov 1 (.s 10)) false false [10] :: cd (some 100) false (some (98, true)) (.ld false 1 (.s 99)) false false [99] :: cd (some 101) false (some (98, true)) (.ld true 3 (.s 7)) false false [7] :: cd (some 102) true (some (98, true)) (.call none (.c (kf 35)) [(.s 100), (.s 101)]) false false [100, 101] :: cd (some 103) false (some (98, true)) (.mov 1 (.s 4)) false false [4] :: cd (some 104) false (some (98, true)) (.ld false 1 (.s 103)) false false [103] :: cd (some 105) false (some (98, true)) (.ld true 3 (.s 7)) false false [7] :: cd (some 106) true (some (98, true)) (.call none (.c (kf 35)) [(.s 104), (.s 105)]) false false [104, 105] :: cd (some 107) true (some (98, true)) (.mv (.s 106)) false false [106] :: cd (some 108) false (some (107, false)) (.mov 1 (.s 5)) false false [5] :: cd (some 109) false (some (107, false)) (.ld false 1 (.s 108)) false false [108] :: cd (some 110) false (some (107, false)) (.ld true 3 (.s 7)) false false [7] :: cd (some 111) true (some (107, false)) (.call none (.c (kf 35)) [(.s 109), (.s 110)]) false false [109, 110] :: cd (some 112) true (some (98, true)) (.pick (.s 107) (.c (kb true)) (.s 111)) false false [107, 111] :: cd (some 113) true (some (98, true)) (.bin .eql .bool (.s 102) (.s 112)) false false [102, 112] :: cd (some 114) true none (.pick (.s 98) (.s 113) (.c (kb false))) false false [98, 113] :: cd (some 8) true none (.mv (.s 114)) false false [114] :: []) [4, 5, 6, 7, 8, 10, 11] []) (.ret))))))))
theorem fun8 : Fun Try.prog cfg 8 115 cd8 [.s 8] := ⟨rfl, Try.f8, _, Try.func8, rfl, rfl, by kernel_rfl, by kernel_rfl⟩
@[go_sem] theorem ok8 : calleeOK Try.prog 8 = true := by kernel_rfl
@[go_sem] theorem ex8 : (cfg.ext 8).isSome = false := rfl
variable {h : DHeap}
set_option maxHeartbeats 4000000 in
theorem attrOrder_lim (a b c : Att) (x : Id) (ha : a.deps.length ≤ 1099511627776) (hb : b.deps.length ≤ 1099511627776) (hc : c.deps.length ≤ 1099511627776) :
    lim Try.prog cfg 8 [attD a, attD b, attD c, .agg [vi x.e, vi x.n, vi x.k]] h = some (vb true, h) := by
  refine lim_funp fun8 rfl (by simp) (by simp [heapFree, heapFree.all, free_idr]) rfl ?_
  delta cd8
  have w1 := works11_lim (h := [])
  by_cases c1 : 40 < a.deps.length
  · have d1 : (40 : Int) < (a.deps.length : Int) := by omega
    simp -implicitDefEqProofs -dsimp (maxSteps := 1000000) only [go_sem, w1, d1]
  have d1 : ¬ (40 : Int) < (a.deps.length : Int) := by omega
  by_cases c2 : 40 < b.deps.length
  · have d2 : (40 : Int) < (b.deps.length : Int) := by omega
    simp -implicitDefEqProofs -dsimp (maxSteps := 1000000) only [go_sem, w1, d1, d2]
  have d2 : ¬ (40 : Int) < (b.deps.length : Int) := by omega
  by_cases c3 : 40 < c.deps.length
  · have d3 : (40 : Int) < (c.deps.length : Int) := by omega
    simp -implicitDefEqProofs -dsimp (maxSteps := 1000000) only [go_sem, w1, d1, d2, d3]
  have d3 : ¬ (40 : Int) < (c.deps.length : Int) := by omega
  by_cases c4 : a.seq < 0
  · simp -implicitDefEqProofs -dsimp (maxSteps := 1000000) only [go_sem, w1, d1, d2, d3, c4]
  by_cases c5 : b.seq < 0
  · simp -implicitDefEqProofs -dsimp (maxSteps := 1000000) only [go_sem, w1, d1, d2, d3, c4, c5]
  by_cases c6 : c.seq < 0
  · simp -implicitDefEqProofs -dsimp (maxSteps := 1000000) only [go_sem, w1, d1, d2, d3, c4, c5, c6]
  have m1 := merge_lim (h := []) a b (by omega)
  have m2 := merge_lim (h := []) b a (by omega)
  have l1 := merge_len a b
  have l2 := merge_len b a
  have m3 := merge_lim (h := []) (mergeP a b) c (by omega)
  have l3 := merge_len (mergeP a b) c
  have m4 := merge_lim (h := []) a a (by omega)
  have l4 := merge_len a a
  have al := allA_lim (h := []) false [c, b, a] (by simp) (by simp; omega)
  have la : (allA [c, b, a]).deps.length ≤ 1000 := by
    have h1 := merge_len ⟨c.seq, []⟩ c
    have h2 := merge_len (mergeP ⟨c.seq, []⟩ c) b
    have h3 := merge_len (mergeP (mergeP ⟨c.seq, []⟩ c) b) a
    show (mergeP (mergeP (mergeP ⟨c.seq, []⟩ c) b) a).deps.length ≤ 1000
    simp only [List.length_nil] at h1
    omega
  have s1 := sameA_lim (h := []) (mergeP a b) (mergeP b a) (by omega) (by omega)
  have s2 := sameA_lim (h := []) (mergeP (mergeP a b) c) (allA [c, b, a]) (by omega) (by omega)
  have s3 := sameA_lim (h := []) (mergeP a a) a (by omega) (by omega)
  rw [merge_comm] at s1
  rw [merge_all] at s2
  rw [merge_self] at s3
  have r1 := rightD_lim (h := []) false (mergeP a b).deps (by omega)
  rw [merge_right] at r1
  have h1 := hasD_lim (h := []) false (mergeP a b).deps x (by omega)
  have h2 := hasD_lim (h := []) false a.deps x (by omega)
  have h3 := hasD_lim (h := []) false b.deps x (by omega)
  have q1 : a.seq ≤ (mergeP a b).seq := Int.le_max_left _ _
  have q2 : b.seq ≤ (mergeP a b).seq := Int.le_max_right _ _
  have q3 : decide (x ∈ (mergeP a b).deps) = (decide (x ∈ a.deps) || decide (x ∈ b.deps)) := by
    rw [Bool.eq_iff_iff]
    simp only [Bool.or_eq_true, decide_eq_true_eq]
    exact merge_mem
  rw [q3] at h1
  simp only [ats, List.map_cons, List.map_nil] at al
  generalize mergeP (mergeP a b) c = mc at *
  generalize mergeP a b = m at *
  generalize mergeP b a = m' at *
  generalize mergeP a a = ma at *
  generalize allA [c, b, a] = z at *
  cases t1 : decide (x ∈ a.deps) <;> cases t2 : decide (x ∈ b.deps) <;> rw [t1] at h1 h2 <;> rw [t2] at h1 h3 <;> simp only [Bool.or_false, Bool.or_true, Bool.false_or, Bool.true_or] at h1 <;>
    simp -implicitDefEqProofs -dsimp (maxSteps := 1000000) only [go_sem, w1, d1, d2, d3, c4, c5, c6, m1, m2, m3, m4, al, s1, s2, s3, r1, h1, h2, h3, q1, q2]
end Go.DS

/-
  The row AttrOrder.
-/
namespace Go.Proofs.Ytdiaecagkgbjcaa.attrOrder
open Go.ChangeShapes Go.WideShapes Go.ChangeAt Go.RowKit
open Go.ChangeMaps (open_string shut_string)
open Go.DS
set_option linter.unusedVariables false
set_option linter.unusedSimpArgs false

set_option maxRecDepth 100000 in
theorem contract (H : Type) (enc : TypeId × Value → H) (W : World) (base : Nat) (args : Array Value) (ds gs : List (DataW H)) (before : List MemPlace)
    (hval0 : ∀ (j : Nat) t v, Try.f8.params[j]? = some t → args[j]? = some v → Value.okWide Try.prog W .any base t v)
    (hW : DataW.Whole enc Try.prog Try.f8.params.toList Rows.attrOrderSpec.vars false W args.toList ds gs before) (hk : Rows.uptoSmall H (ds ++ gs) = true) :
    Calls Try.prog 8 args W fun e W' => ∃ v, e = .returned v ∧ Rows.attrOrderSpec.post enc Try.prog Try.f8 false true false false W args v W' := by
  have hval : ∀ (j : Nat) t v, Try.f8.params[j]? = some t → args[j]? = some v → Value.okWide Try.prog W .any base t v := hval0
  have hW' := hW
  obtain ⟨p, q, hA0, hV, rfl, hfz, hnd⟩ := hW
  have hA : DataW.TrodAll enc Try.prog W 0 (fun _ => true) true Try.f8.params.toList args.toList ds p := hA0
  rw [Try.params8] at hA hval
  obtain ⟨v0, vs0, d0, ds0, p0, q0, hargs, rfl, rfl, h0, r0⟩ := trodAll_cons hA
  obtain ⟨v1, vs1, d1, ds1, p1, q1, rfl, rfl, rfl, h1, r1⟩ := trodAll_cons r0
  obtain ⟨v2, vs2, d2, ds2, p2, q2, rfl, rfl, rfl, h2, r2⟩ := trodAll_cons r1
  obtain ⟨v3, vs3, d3, ds3, p3, q3, rfl, rfl, rfl, h3, r3⟩ := trodAll_cons r2
  obtain ⟨rfl, rfl, rfl⟩ := trodAll_nil r3
  obtain rfl : args = #[v0, v1, v2, v3] := by cases args; simp_all
  obtain ⟨rfl, rfl⟩ := trodVars_none hV
  have lt0 : ∀ x ∈ p0, x.block < W.heap.size := by obtain ⟨m, hm⟩ := h0; exact DataW.trod_lt m _ _ _ hm
  have k0 := h0
  obtain ⟨a0, y0, b0⟩ := arg_att (B := 1048575) (hval 0 36 v0 rfl rfl) h0 (by have hb := of_decide_eq_true hk; simp only [Rows.uptoBulkAll, List.append_nil, List.cons_append, List.nil_append] at hb; omega)
  have lt1 : ∀ x ∈ p1, x.block < W.heap.size := by obtain ⟨m, hm⟩ := h1; exact DataW.trod_lt m _ _ _ hm
  have k1 := h1
  obtain ⟨a1, y1, b1⟩ := arg_att (B := 1048575) (hval 1 36 v1 rfl rfl) h1 (by have hb := of_decide_eq_true hk; simp only [Rows.uptoBulkAll, List.append_nil, List.cons_append, List.nil_append] at hb; omega)
  have lt2 : ∀ x ∈ p2, x.block < W.heap.size := by obtain ⟨m, hm⟩ := h2; exact DataW.trod_lt m _ _ _ hm
  have k2 := h2
  obtain ⟨a2, y2, b2⟩ := arg_att (B := 1048575) (hval 2 36 v2 rfl rfl) h2 (by have hb := of_decide_eq_true hk; simp only [Rows.uptoBulkAll, List.append_nil, List.cons_append, List.nil_append] at hb; omega)
  have lt3 : ∀ x ∈ p3, x.block < W.heap.size := by obtain ⟨m, hm⟩ := h3; exact DataW.trod_lt m _ _ _ hm
  have k3 := h3
  obtain ⟨a3, y3, b3⟩ := arg_id (B := 1048575) (hval 3 27 v3 rfl rfl) h3 (by have hb := of_decide_eq_true hk; simp only [Rows.uptoBulkAll, List.append_nil, List.cons_append, List.nil_append] at hb; omega)
  clear hA0 hval0
  have hb := of_decide_eq_true hk
  simp only [Rows.uptoBulkAll, Rows.uptoBulk, List.append_nil] at hb
  refine (Go.DS.start ext_ok (attrOrder_lim a0 a1 a2 a3 (by have := b0.len; omega) (by have := b1.len; omega) (by have := b2.len; omega)) W (vs := #[v0, v1, v2, v3]) (.cons (y0) (.cons (y1) (.cons (y2) (.cons (y3) (.nil _)))))).mono fun e W' ⟨he, bel⟩ => ?_
  subst he
  exact ⟨_, rfl, _, _, _, [], _, [], hW', trodAll_mk1 (shut_bool Try.underlying4 _), (trodAll_cons_mk (Below.trod laidOut' (by kernel_rfl) (of_decide_eq_true (by kernel_rfl)) k0 bel lt0) (trodAll_cons_mk (Below.trod laidOut' (by kernel_rfl) (of_decide_eq_true (by kernel_rfl)) k1 bel lt1) (trodAll_cons_mk (Below.trod laidOut' (by kernel_rfl) (of_decide_eq_true (by kernel_rfl)) k2 bel lt2) (trodAll_cons_mk (Below.trod laidOut' (by kernel_rfl) (of_decide_eq_true (by kernel_rfl)) k3 bel lt3) trodAll_mk0)))), rfl, bel.frame _, fun h => by cases h⟩

set_option maxRecDepth 100000 in
theorem lifted (os : Os) (started : os.Started) (H : Type) (enc : TypeId × Value → H) (F : Stop.Interp) :
    ReturnsInHanded {} Try.checked os 8 .any ((Rows.OpenSpec.upto Rows.attrOrderSpec).pre6 enc Try.prog Try.f8 Rows.attrOrderUptoRow.domain false) (((Rows.OpenSpec.upto Rows.attrOrderSpec).at F).post enc Try.prog Try.f8 false true false false) := by
  refine returnsInHanded_of_cond (C := Try.checked) (s := Rows.OpenSpec.upto Rows.attrOrderSpec) (k := Rows.uptoSmall) rfl own' started (by kernel_rfl) Try.func8
    (OpenSpec.witness (enc := enc) (C := Try.checked) (s := Rows.OpenSpec.upto Rows.attrOrderSpec) (k := Rows.uptoSmall) rfl false ⟨#[], #[.agg #[.int .i64 0, .slice none 0 0], .agg #[.int .i64 0, .slice none 0 0], .agg #[.int .i64 0, .slice none 0 0], .agg #[.int .i64 0, .int .i64 0, .int .i64 0]], []⟩ 8 (by kernel_rfl) (by kernel_rfl) (by kernel_rfl)
      (x := ([.agg [.lit (.int .i64 0), .nil], .agg [.lit (.int .i64 0), .nil], .agg [.lit (.int .i64 0), .nil], .agg [.lit (.int .i64 0), .lit (.int .i64 0), .lit (.int .i64 0)]], [], [])) (by kernel_rfl) rfl (by kernel_rfl)) ?_
  intro W base args ds gs before hval hW _ hk _
  exact contract H enc W base args ds gs before hval hW hk

theorem over : Rows.attrOrderUptoRow.holds Try.pinned (Rows.OpenSpec.upto Rows.attrOrderSpec) :=
  OpenClaim.holds_of_cond 8 Try.f8 rfl rfl rfl rfl rfl rfl rfl ⟨rfl, rfl, rfl, rfl, rfl⟩ rfl rfl rfl rfl rfl (by kernel_rfl) Try.func8 (by kernel_rfl)
    (of_decide_eq_true (by kernel_rfl)) (by unfold Func.isWrapper; first | (rw [if_pos (by decide +kernel)]; kernel_rfl) | (rw [if_neg (by decide +kernel)]; exact ⟨rfl, rfl⟩))
    (fun os started H enc _ F => lifted os started H enc F)

theorem proved : Rows.AttrOrderUptoSaid := over
#print axioms proved
end Go.Proofs.Ytdiaecagkgbjcaa.attrOrder
namespace Go.Proofs.Ytdiaecagkgbjcaa
theorem attrOrder_holds : Rows.AttrOrderUptoSaid := attrOrder.proved
end Go.Proofs.Ytdiaecagkgbjcaa
