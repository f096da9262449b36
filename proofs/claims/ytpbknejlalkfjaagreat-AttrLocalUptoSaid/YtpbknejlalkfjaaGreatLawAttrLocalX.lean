/-
  Walks: the law AttrLocal.
-/
import Derived.Test.YtpbknejlalkfjaaGreatH9
import Derived.WalkKit
import Derived.ProofKit
import Derived.OpenShut
import Derived.ShutString
import Derived.ChangeOld
import Derived.Below
import Derived.JoinedCond
import Derived.Carry
set_option linter.unusedSimpArgs false
set_option linter.unusedVariables false
namespace Go.DS
open Go Go.Proofs
set_option maxRecDepth 100000
set_option linter.unusedVariables false
set_option linter.unusedSimpArgs false
def cd31 : Cd := .seq (R [cb 4 (.tk (.c (kb false)))] [0, 1]) (.seq (.seq (R [c0 6 (.mv (.s 0)), c0 7 (.len 1 (.s 6)), c0 8 (.mv (.s 1)), c0 9 (.len 1 (.s 8)), cb 10 (.bin .neq .any (.s 7) (.s 9))] [0, 1, 10]) (.ite (.s 10) (.seq (R [cb 4 (.tk (.c (kb false)))] [4]) (.ret)) (.skip))) (.seq (.seq (R [c0 5 (.tk (.c (ki .i64 0)))] [0, 1, 5]) (.block 0 (LP [0, 1, 5] (.seq (.seq (R [c0 11 (.mv (.s 5)), c0 12 (.mv (.s 0)), c0 13 (.len 1 (.s 12)), cb 14 (.bin .lss .any (.s 11) (.s 13))] [0, 1, 5, 14]) (.ite (.s 14) (.skip) (.exit 0))) (.seq (.block 1 (.seq (RD [cd (some 17) false none (.mv (.s 0)) false false [0], cd (some 18) false none (.mv (.s 5)) false false [5], cd (some 19) false none (.ixp 3 (.s 17) (.s 18)) false false [17, 18], cd (some 20) false none (.ld true 3 (.s 19)) false false [19], cd (some 21) false none (.mv (.s 1)) false false [1], cd (some 22) false none (.mv (.s 5)) false false [5], cd (some 23) false none (.ixp 3 (.s 21) (.s 22)) false false [21, 22], cd (some 24) false none (.ld true 3 (.s 23)) false false [23], cd (some 25) true none (.bin .neq (.flat [0, 0, 0]) (.s 20) (.s 24)) false false [20, 24]] [0, 1, 5, 25] []) (.ite (.s 25) (.seq (R [cb 4 (.tk (.c (kb false)))] [4]) (.ret)) (.skip)))) (R [c0 15 (.mv (.s 5)), c0 16 (.bin .add .any (.s 15) (.c (ki .i64 1))), c0 5 (.tk (.s 16))] [0, 1, 5])))))) (.seq (R [cb 4 (.tk (.c (kb true)))] [4]) (.ret))))
theorem fun31 : Fun Tryz.prog cfg 31 26 cd31 [.s 4] := ⟨rfl, Tryz.f31, _, Tryz.func31, rfl, rfl, by kernel_rfl, by kernel_rfl⟩
@[go_sem] theorem ok31 : calleeOK Tryz.prog 31 = true := by kernel_rfl
@[go_sem] theorem ex31 : (cfg.ext 31).isSome = false := rfl
def cd9 : Cd := .seq (R [c0 2 (.new false (.s 0)), c0 3 (.new false (.s 1)), cb 4 (.tk (.c (kb false)))] [2, 3]) (.seq (R [c0 5 (.mov 0 (.s 2)), c0 6 (.ld false 1 (.s 5)), c0 7 (.mov 0 (.s 3)), c0 8 (.ld false 1 (.s 7)), cb 9 (.bin .eql .any (.s 6) (.s 8)), cb 10 (.mv (.s 9)), cg 11 10 true (.mov 1 (.s 2)), cg 12 10 true (.ld false 5 (.s 11)), cg 13 10 true (.mov 1 (.s 3)), cg 14 10 true (.ld false 5 (.s 13)), ch 15 10 true (.call none (.c (kf 31)) [(.s 12), (.s 14)]), cb 16 (.pick (.s 10) (.s 15) (.c (kb false))), cb 4 (.tk (.s 16))] [2, 3, 4]) (.ret))
theorem fun9 : Fun Tryz.prog cfg 9 17 cd9 [.s 4] := ⟨rfl, Tryz.f9, _, Tryz.func9, rfl, rfl, by kernel_rfl, by kernel_rfl⟩
@[go_sem] theorem ok9 : calleeOK Tryz.prog 9 = true := by kernel_rfl
@[go_sem] theorem ex9 : (cfg.ext 9).isSome = false := rfl
def cd12 : Cd := .seq (R [c0 2 (.tk (.c (kn 13)))] [0]) (.seq (R [c0 3 (.tk (.c (kn 13)))] [0, 3]) (.seq (.seq (R [c0 4 (.tk (.c (ki .i64 0)))] [0, 3, 4]) (.block 0 (LP [0, 3, 4] (.seq (.seq (R [c0 5 (.mv (.s 4)), c0 6 (.mv (.s 0)), c0 7 (.len 1 (.s 6)), cb 8 (.bin .lss .any (.s 5) (.s 7))] [0, 3, 4, 8]) (.ite (.s 8) (.skip) (.exit 0))) (.seq (.block 1 (RD [cd (some 11) false none (.tk (.s 3)) false false [3], cd (some 12) false none (.mv (.s 0)) false false [0], cd (some 13) false none (.mv (.s 4)) false false [4], cd (some 14) false none (.ixp 13 (.s 12) (.s 13)) false false [12, 13], cd (some 15) false none (.mov 0 (.s 14)) false false [14], cd (some 16) false none (.ld true 3 (.s 15)) false false [15], cd (some 17) false none (.mv (.s 0)) false false [0], cd (some 18) false none (.mv (.s 4)) false false [4], cd (some 19) false none (.ixp 13 (.s 17) (.s 18)) false false [17, 18], cd (some 20) false none (.mov 3 (.s 19)) false false [19], cd (some 21) false none (.ld true 8 (.s 20)) false false [20], cd (some 22) false none (.mv (.s 0)) false false [0], cd (some 23) false none (.mv (.s 4)) false false [4], cd (some 24) false none (.ixp 13 (.s 22) (.s 23)) false false [22, 23], cd (some 25) false none (.mov 11 (.s 24)) false false [24], cd (some 26) false none (.ld true 2 (.s 25)) false false [25], cd (some 27) false none (.bld [ki .i64 0, ki .i64 0, ki .i64 0, ki .i64 0, ki .i64 0, ki .i64 0, ks [], ks [], ki .i64 0, ki .i64 0, ki .i64 0, ki .i64 0, kz 3] [(0, 3, (.s 16)), (3, 8, (.s 21)), (11, 2, (.s 26))]) false false [16, 21, 26], cd (some 28) false none (.bsl 13 [(.s 27)]) false false [27], cd (some 29) false none (.app 13 150 false (.s 11) (.s 28)) false false [11, 28], cd (some 3) false none (.tk (.s 29)) false false [29]] [0, 3, 4] [])) (R [c0 9 (.mv (.s 4)), c0 10 (.bin .add .any (.s 9) (.c (ki .i64 1))), c0 4 (.tk (.s 10))] [0, 3, 4])))))) (.seq (R [c0 30 (.tk (.s 3)), c0 2 (.tk (.s 30))] [2]) (.ret))))
theorem fun12 : Fun Tryz.prog cfg 12 31 cd12 [.s 2] := ⟨rfl, Tryz.f12, _, Tryz.func12, rfl, rfl, by kernel_rfl, by kernel_rfl⟩
@[go_sem] theorem ok12 : calleeOK Tryz.prog 12 = true := by kernel_rfl
@[go_sem] theorem ex12 : (cfg.ext 12).isSome = false := rfl
def cd3 : Cd := .seq (R [c0 5 (.new false (.s 1)), c0 6 (.new false (.s 2)), c0 7 (.new false (.s 3)), cb 8 (.mv (.c (kb false)))] [0, 5, 6, 7]) (.seq (R [cb 11 (.call none (.c (kf 6)) []), cb 9 (.tk (.s 11))] [0, 5, 6, 7, 9]) (.seq (.seq (R [cb 12 (.mv (.s 9)), cb 13 (.un .not (.s 12))] [0, 5, 6, 7, 9, 13]) (.ite (.s 13) (.seq (R [cb 8 (.mv (.c (kb false)))] [5, 6, 7, 8]) (.ret)) (.skip))) (.seq (.seq (R [c0 14 (.mv (.s 0)), cb 15 (.call none (.c (kf 7)) [(.s 14)]), cb 16 (.un .not (.s 15)), cb 17 (.mv (.s 16)), cg 18 17 false (.ld true 8 (.s 6)), cg 19 17 false (.bsl 8 [(.s 18)]), ch 20 17 false (.call none (.c (kf 8)) [(.s 19)]), cb 21 (.pick (.s 17) (.c (kb true)) (.s 20)), cb 22 (.mv (.s 21)), cg 23 22 false (.mov 1 (.s 7)), cg 24 22 false (.ld false 5 (.s 23)), cg 25 22 false (.len 1 (.s 24)), ch 26 22 false (.bin .gtr .any (.s 25) (.c (ki .i64 2000))), cb 27 (.pick (.s 22) (.c (kb true)) (.s 26))] [0, 5, 6, 7, 9, 27]) (.ite (.s 27) (.seq (R [cb 28 (.mv (.s 9)), cb 8 (.mv (.s 28))] [5, 6, 7, 8]) (.ret)) (.skip))) (.seq (RD [cd (some 29) false none (.mv (.s 0)) false false [0], cd (some 30) false none (.ld true 3 (.s 5)) false false [5], cd (some 31) false none (.ld true 8 (.s 6)) false false [6], cd (some 32) false none (.call none (.c (kf 10)) [(.s 29), (.s 30), (.s 31)]) false false [29, 30, 31], cd (some 33) false none (.mv (.s 0)) false false [0], cd (some 34) false none (.call none (.c (kf 12)) [(.s 33)]) false false [33], cd (some 35) false none (.ld true 3 (.s 5)) false false [5], cd (some 36) false none (.ld true 8 (.s 6)) false false [6], cd (some 37) false none (.call none (.c (kf 11)) [(.s 34), (.s 35), (.s 36)]) false false [34, 35, 36], cd (some 38) true none (.call none (.c (kf 9)) [(.s 32), (.s 37)]) false false [32, 37], cd (some 10) true none (.mv (.s 38)) false false [38]] [5, 6, 7, 9, 10] []) (.seq (RD [cd (some 39) true none (.mv (.s 9)) false false [9], cd (some 40) true none (.mv (.s 39)) false false [39], cd (some 41) true (some (40, true)) (.mv (.s 10)) false false [10], cd (some 42) true none (.pick (.s 40) (.s 41) (.c (kb false))) false false [40, 41], cd (some 43) true none (.mv (.s 42)) false false [42], cd (some 44) false (some (43, true)) (.ld true 3 (.s 5)) false false [5], cd (some 45) false (some (43, true)) (.ld true 2 (.s 7)) false false [7], cd (some 46) true (some (43, true)) (.call none (.c (kf 13)) [(.s 44), (.s 45)]) false false [44, 45], cd (some 47) false (some (43, true)) (.ld true 3 (.s 5)) false false [5], cd (some 48) false (some (43, true)) (.ld true 2 (.s 7)) false false [7], cd (some 49) true (some (43, true)) (.call none (.c (kf 14)) [(.s 47), (.s 48)]) false false [47, 48], cd (some 50) true (some (43, true)) (.bin .eql .bool (.s 46) (.s 49)) false false [46, 49], cd (some 51) true none (.pick (.s 43) (.s 50) (.c (kb false))) false false [43, 50], cd (some 8) true none (.mv (.s 51)) false false [51]] [5, 6, 7, 8] []) (.ret))))))
theorem fun3 : Fun Tryz.prog cfg 3 52 cd3 [.s 8] := ⟨rfl, Tryz.f3, _, Tryz.func3, rfl, rfl, by kernel_rfl, by kernel_rfl⟩
@[go_sem] theorem ok3 : calleeOK Tryz.prog 3 = true := by kernel_rfl
@[go_sem] theorem ex3 : (cfg.ext 3).isSome = false := rfl
variable {h : DHeap}
theorem rowD_self (o1 o2 : Bool) (l : List Id) (hl : l.length ≤ 1099511627776) : lim Tryz.prog cfg 31 [.list o1 3 (idr l), .list o2 3 (idr l)] h = some (vb true, h) := by
  refine lim_funp fun31 rfl (by simp) (by simp [heapFree, heapFree.all, free_idr]) rfl ?_
  delta cd31
  simp -implicitDefEqProofs -dsimp only [go_sem]
  refine wp_for (σ := Nat) (fun k => [(0, .list false 3 (idr l)), (1, .list false 3 (idr l)), (5, vi (k : Nat))]) (fun _ => []) (fun k => l.length - k) (fun k => k ≤ l.length) 0 (by simp) rfl rfl ?_
  rintro k hk N hN
  by_cases hlt : k < l.length
  · have h1 : ((k : Int) < (l.length : Int)) := by omega
    simp -implicitDefEqProofs -dsimp only [go_sem, h1, hlt, nat_nn9]
    refine hN (k + 1) _ (by omega) (by omega) ?_
    simp -implicitDefEqProofs -dsimp only [go_sem, wrap_succ (show k < 9223372036854775807 by omega)]
  · have h1 : ¬ ((k : Int) < (l.length : Int)) := by omega
    simp -implicitDefEqProofs -dsimp only [go_sem, h1]
theorem same11_self (a : Att) (hl : a.deps.length ≤ 1099511627776) : lim Tryz.prog cfg 9 [attD a, attD a] h = some (vb true, h) := by
  refine lim_funp fun9 rfl (by simp) (by simp [heapFree, heapFree.all, free_idr]) rfl ?_
  delta cd9
  have e1 := rowD_self (h := []) false false a.deps hl
  simp -implicitDefEqProofs -dsimp only [go_sem, e1]
theorem knr_snoc (l : List Kno) (x : Kno) : kns (l ++ [x]) = kns l ++ [[vi x.id.e, vi x.id.n, vi x.id.k, vi x.cmd.client, vi x.cmd.seq, vi x.cmd.op, vs x.cmd.path, vs x.cmd.value, vi x.cmd.version, vi x.cmd.a, vi x.cmd.b, vi x.att.seq, .list false 3 (idr x.att.deps)]] := by simp [kns]
set_option maxHeartbeats 4000000 in
theorem rof11_lim (own : Bool) (l : List Kno) (hl : l.length ≤ 1000000) : lim Tryz.prog cfg 12 [.list own 13 (kns l)] h = some (.list true 13 (kns l), h) := by
  refine lim_funp fun12 rfl (by simp) (by simp [heapFree, heapFree.all, free_kns]) (by simp [heapFree, heapFree.all, free_kns]) ?_
  delta cd12
  simp -implicitDefEqProofs -dsimp only [go_sem]
  refine wp_for (σ := Nat) (fun k => [(0, .list false 13 (kns l)), (3, .list true 13 (kns (l.take k))), (4, vi (k : Nat))]) (fun _ => []) (fun k => l.length - k) (fun k => k ≤ l.length) 0 (by simp) rfl rfl ?_
  rintro k hk N hN
  by_cases hlt : k < l.length
  · have h1 : ((k : Int) < (l.length : Int)) := by omega
    have q := fun N => knr_at hlt N
    have hm : ((l.take k).length + 1) * 150 ≤ maxLenD := by rw [List.length_take]; unfold maxLenD; omega
    have N2 := hN (k + 1)
    rw [List.take_succ_eq_append_getElem hlt, knr_snoc] at N2
    clear hN
    simp -implicitDefEqProofs -dsimp only [go_sem, ↓q, wp_RD, postC_path2, Nat.reduceDiv, h1, hm]
    refine N2 _ (by omega) (by omega) ?_
    simp -implicitDefEqProofs -dsimp only [go_sem, wrap_succ (show k < 9223372036854775807 by omega)]
  · have h1 : ¬ ((k : Int) < (l.length : Int)) := by omega
    have e : l.take k = l := List.take_of_length_le (by omega)
    simp -implicitDefEqProofs -dsimp only [go_sem, h1, e]
set_option maxHeartbeats 4000000 in
theorem attrLocal_lim (own : Bool) (l : List Kno) (id : Id) (c : Cmd) (a : Att) (hl : l.length ≤ 1048576) (hc : c.path.length ≤ 1048576) (ha : a.deps.length ≤ 1048576) :
    lim Tryz.prog cfg 3 [.list own 13 (kns l), .agg [vi id.e, vi id.n, vi id.k], cmdD c, attD a] h = some (vb true, h) := by
  refine lim_funp fun3 rfl (by simp) (by simp [heapFree, heapFree.all, free_idr, free_kns]) rfl ?_
  delta cd3
  have w1 := works11_lim (h := [])
  have f1 := few_lim (h := []) false l (by omega)
  have o1 := over_lim (h := []) false [c] (by simp)
  simp only [cms, List.map_cons, List.map_nil] at o1
  cases c1 : fewP l with
  | false =>
    rw [c1] at f1
    simp -implicitDefEqProofs -dsimp (maxSteps := 1000000) only [go_sem, w1, f1]
  | true =>
  rw [c1] at f1
  cases c3 : overP [c] with
  | true =>
    rw [c3] at o1
    simp -implicitDefEqProofs -dsimp (maxSteps := 1000000) only [go_sem, w1, f1, o1]
  | false =>
  rw [c3] at o1
  by_cases c4 : 2000 < a.deps.length
  · have c4' : (2000 : Int) < (a.deps.length : Int) := by omega
    simp -implicitDefEqProofs -dsimp (maxSteps := 1000000) only [go_sem, w1, f1, o1, c4']
  have c4' : ¬ (2000 : Int) < (a.deps.length : Int) := by omega
  obtain ⟨g1, g2⟩ := fewP_iff.1 c1
  have hc' := over1 c3
  have hp : ∀ y ∈ l, y.cmd.path.length ≤ 300 ∧ y.att.seq ≤ 1125899906842624 := fun y hy => by
    have := g2 y hy; have := over1 this.2.1; exact ⟨by omega, by omega⟩
  have e1 := local_lim (h := []) false l id c (by omega) (fun y hy => by have := hp y hy; exact ⟨by omega, by omega⟩) (by omega)
  have e2 := rof11_lim (h := []) false l (by omega)
  have e3 := fun o => rlocal_lim (h := []) o l id c (by omega) (fun y hy => by have := hp y hy; exact ⟨by omega, by omega⟩) (by omega)
  have ld : (localP l id c).deps.length ≤ 1000 := by
    have h1 := clean_len (locD l id c)
    have h2 := locD_len l id c
    rw [local_eq]
    show (cleanP _).length ≤ 1000
    omega
  have e4 := same11_self (h := []) (localP l id c) (by omega)
  have v1 := validA_lim (h := []) id a (by omega)
  have v2 := rvalidA_lim (h := []) id a (by omega)
  generalize localP l id c = lc at *
  generalize validA id a = va at *
  cases va <;> simp -implicitDefEqProofs -dsimp (maxSteps := 1000000) only [go_sem, wp_RD, postC_path2, Nat.reduceDiv, w1, f1, o1, c4', e1, e2, e3, e4, v1, v2]
end Go.DS

/-
  The row AttrLocal.
-/
namespace Go.Proofs.YtpbknejlalkfjaaGreat.attrLocal
open Go.ChangeShapes Go.WideShapes Go.ChangeAt Go.RowKit
open Go.ChangeMaps (open_string shut_string)
open Go.DS
set_option linter.unusedVariables false
set_option linter.unusedSimpArgs false

set_option maxRecDepth 100000 in
theorem contract (H : Type) (enc : TypeId × Value → H) (W : World) (base : Nat) (args : Array Value) (ds gs : List (DataW H)) (before : List MemPlace)
    (hval0 : ∀ (j : Nat) t v, Tryz.f3.params[j]? = some t → args[j]? = some v → Value.okWide Tryz.prog W .any base t v)
    (hW : DataW.Whole enc Tryz.prog Tryz.f3.params.toList Rows.attrLocalSpec.vars false W args.toList ds gs before) (hk : Rows.uptoSmall H (ds ++ gs) = true) :
    Calls Tryz.prog 3 args W fun e W' => ∃ v, e = .returned v ∧ Rows.attrLocalSpec.post enc Tryz.prog Tryz.f3 false true false false W args v W' := by
  have hval : ∀ (j : Nat) t v, Tryz.f3.params[j]? = some t → args[j]? = some v → Value.okWide Tryz.prog W .any base t v := hval0
  have hW' := hW
  obtain ⟨p, q, hA0, hV, rfl, hfz, hnd⟩ := hW
  have hA : DataW.TrodAll enc Tryz.prog W 0 (fun _ => true) true Tryz.f3.params.toList args.toList ds p := hA0
  rw [Tryz.params3] at hA hval
  obtain ⟨v0, vs0, d0, ds0, p0, q0, hargs, rfl, rfl, h0, r0⟩ := trodAll_cons hA
  obtain ⟨v1, vs1, d1, ds1, p1, q1, rfl, rfl, rfl, h1, r1⟩ := trodAll_cons r0
  obtain ⟨v2, vs2, d2, ds2, p2, q2, rfl, rfl, rfl, h2, r2⟩ := trodAll_cons r1
  obtain ⟨v3, vs3, d3, ds3, p3, q3, rfl, rfl, rfl, h3, r3⟩ := trodAll_cons r2
  obtain ⟨rfl, rfl, rfl⟩ := trodAll_nil r3
  obtain rfl : args = #[v0, v1, v2, v3] := by cases args; simp_all
  obtain ⟨rfl, rfl⟩ := trodVars_none hV
  have lt0 : ∀ x ∈ p0, x.block < W.heap.size := by obtain ⟨m, hm⟩ := h0; exact DataW.trod_lt m _ _ _ hm
  have k0 := h0
  obtain ⟨a0, y0, b0⟩ := arg_knos (B := 1048575) (hval 0 22 v0 rfl rfl) h0 (by have hb := of_decide_eq_true hk; simp only [Rows.uptoBulkAll, List.append_nil, List.cons_append, List.nil_append] at hb; omega)
  have lt1 : ∀ x ∈ p1, x.block < W.heap.size := by obtain ⟨m, hm⟩ := h1; exact DataW.trod_lt m _ _ _ hm
  have k1 := h1
  obtain ⟨a1, y1, b1⟩ := arg_id (B := 1048575) (hval 1 24 v1 rfl rfl) h1 (by have hb := of_decide_eq_true hk; simp only [Rows.uptoBulkAll, List.append_nil, List.cons_append, List.nil_append] at hb; omega)
  have lt2 : ∀ x ∈ p2, x.block < W.heap.size := by obtain ⟨m, hm⟩ := h2; exact DataW.trod_lt m _ _ _ hm
  have k2 := h2
  obtain ⟨a2, y2, b2⟩ := arg_cmd (B := 1048575) (hval 2 27 v2 rfl rfl) h2 (by have hb := of_decide_eq_true hk; simp only [Rows.uptoBulkAll, List.append_nil, List.cons_append, List.nil_append] at hb; omega)
  have lt3 : ∀ x ∈ p3, x.block < W.heap.size := by obtain ⟨m, hm⟩ := h3; exact DataW.trod_lt m _ _ _ hm
  have k3 := h3
  obtain ⟨a3, y3, b3⟩ := arg_att (B := 1048575) (hval 3 30 v3 rfl rfl) h3 (by have hb := of_decide_eq_true hk; simp only [Rows.uptoBulkAll, List.append_nil, List.cons_append, List.nil_append] at hb; omega)
  clear hA0 hval0
  have hb := of_decide_eq_true hk
  simp only [Rows.uptoBulkAll, Rows.uptoBulk, List.append_nil] at hb
  refine (Go.DS.start ext_ok (attrLocal_lim false a0 a1 a2 a3 (by have := b0.1; omega) (by have := b2.path; omega) (by have := b3.len; omega)) W (vs := #[v0, v1, v2, v3]) (.cons (y0) (.cons (y1) (.cons (y2) (.cons (y3) (.nil _)))))).mono fun e W' ⟨he, bel⟩ => ?_
  subst he
  exact ⟨_, rfl, _, _, _, [], _, [], hW', trodAll_mk1 (shut_bool Tryz.underlying4 _), (trodAll_cons_mk (Below.trod laidOut' (by kernel_rfl) (of_decide_eq_true (by kernel_rfl)) k0 bel lt0) (trodAll_cons_mk (Below.trod laidOut' (by kernel_rfl) (of_decide_eq_true (by kernel_rfl)) k1 bel lt1) (trodAll_cons_mk (Below.trod laidOut' (by kernel_rfl) (of_decide_eq_true (by kernel_rfl)) k2 bel lt2) (trodAll_cons_mk (Below.trod laidOut' (by kernel_rfl) (of_decide_eq_true (by kernel_rfl)) k3 bel lt3) trodAll_mk0)))), rfl, bel.frame _, fun h => by cases h⟩

set_option maxRecDepth 100000 in
theorem lifted (os : Os) (started : os.Started) (H : Type) (enc : TypeId × Value → H) (F : Stop.Interp) :
    ReturnsInHanded {} Tryz.checked os 3 .any ((Rows.OpenSpec.upto Rows.attrLocalSpec).pre6 enc Tryz.prog Tryz.f3 Rows.attrLocalUptoRow.domain false) (((Rows.OpenSpec.upto Rows.attrLocalSpec).at F).post enc Tryz.prog Tryz.f3 false true false false) := by
  refine returnsInHanded_of_cond (C := Tryz.checked) (s := Rows.OpenSpec.upto Rows.attrLocalSpec) (k := Rows.uptoSmall) rfl own' started (by kernel_rfl) Tryz.func3
    (OpenSpec.witness (enc := enc) (C := Tryz.checked) (s := Rows.OpenSpec.upto Rows.attrLocalSpec) (k := Rows.uptoSmall) rfl false ⟨#[], #[.slice none 0 0, .agg #[.int .i64 0, .int .i64 0, .int .i64 0], .agg #[.int .i64 0, .int .i64 0, .int .i64 0, .string ByteArray.empty, .string ByteArray.empty, .int .i64 0, .int .i64 0, .int .i64 0], .agg #[.int .i64 0, .slice none 0 0]], []⟩ 8 (by kernel_rfl) (by kernel_rfl) (by kernel_rfl)
      (x := ([.nil, .agg [.lit (.int .i64 0), .lit (.int .i64 0), .lit (.int .i64 0)], .agg [.lit (.int .i64 0), .lit (.int .i64 0), .lit (.int .i64 0), .lit (.string []), .lit (.string []), .lit (.int .i64 0), .lit (.int .i64 0), .lit (.int .i64 0)], .agg [.lit (.int .i64 0), .nil]], [], [])) (by kernel_rfl) rfl (by kernel_rfl)) ?_
  intro W base args ds gs before hval hW _ hk _
  exact contract H enc W base args ds gs before hval hW hk

theorem over : Rows.attrLocalUptoRow.holds Tryz.pinned (Rows.OpenSpec.upto Rows.attrLocalSpec) :=
  OpenClaim.holds_of_cond 3 Tryz.f3 rfl rfl rfl rfl rfl rfl rfl ⟨rfl, rfl, rfl, rfl, rfl⟩ rfl rfl rfl rfl rfl (by kernel_rfl) Tryz.func3 (by kernel_rfl)
    (of_decide_eq_true (by kernel_rfl)) (by unfold Func.isWrapper; first | (rw [if_pos (by decide +kernel)]; kernel_rfl) | (rw [if_neg (by decide +kernel)]; exact ⟨rfl, rfl⟩))
    (fun os started H enc _ F => lifted os started H enc F)

theorem proved : Rows.AttrLocalUptoSaid := over
#print axioms proved
end Go.Proofs.YtpbknejlalkfjaaGreat.attrLocal
namespace Go.Proofs.YtpbknejlalkfjaaGreat
theorem attrLocal_holds : Rows.AttrLocalUptoSaid := attrLocal.proved
end Go.Proofs.YtpbknejlalkfjaaGreat
