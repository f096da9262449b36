/-
  Walks: the law AttrLinks.
-/
import Derived.Test.YtdiaecagkgbjcaaH9
import Derived.WalkKit
import Derived.ProofKit
import Derived.OpenShut
import Derived.ShutString
import Derived.ChangeOld
import Derived.Below
import Derived.JoinedCond
import Derived.Carry
set_option linter.unusedSimpArgs false
set_option linter.unusedVariables false
namespace Go.DS
open Go Go.Proofs
set_option maxRecDepth 100000
set_option linter.unusedVariables false
set_option linter.unusedSimpArgs false
def cd9 : Cd := .seq (R [c0 5 (.new false (.s 1)), c0 6 (.new false (.s 2)), c0 7 (.new false (.s 3)), cb 8 (.tk (.c (kb false)))] [0, 5, 6, 7, 11, 12, 13]) (.seq (R [cb 14 (.call none (.c (kf 30)) []), cb 9 (.tk (.s 14))] [0, 5, 6, 7, 9, 11, 12, 13]) (.seq (.seq (R [cb 15 (.mv (.s 9)), cb 16 (.un .not (.s 15))] [0, 5, 6, 7, 9, 11, 12, 13, 16]) (.ite (.s 16) (.seq (R [cb 8 (.tk (.c (kb false)))] [5, 6, 7, 8, 11, 12, 13]) (.ret)) (.skip))) (.seq (.seq (R (c0 17 (.mv (.s 0)) :: cb 18 (.call none (.c (kf 36)) [(.s 17)]) :: cb 19 (.un .not (.s 18)) :: cb 20 (.mv (.s 19)) :: cg 21 20 false (.ld true 13 (.s 5)) :: cg 22 20 false (.bsl 13 [(.s 21)]) :: ch 23 20 false (.call none (.c (kf 36)) [(.s 22)]) :: ch 24 20 false (.un .not (.s 23)) :: cb 25 (.pick (.s 20) (.c (kb true)) (.s 24)) :: cb 26 (.mv (.s 25)) :: cg 27 26 false (.ld true 8 (.s 7)) :: cg 28 26 false (.bsl 8 [(.s 27)]) :: ch 29 26 false (.call none (.c (kf 37)) [(.s 28)]) :: cb 30 (.pick (.s 26) (.c (kb true)) (.s 29)) :: cb 31 (.mv (.s 30)) :: cg 32 31 false (.mov 11 (.s 5)) :: cg 33 31 false (.mov 0 (.s 32)) :: cg 34 31 false (.ld false 1 (.s 33)) :: ch 35 31 false (.bin .lss .any (.s 34) (.c (ki .i64 0))) :: cb 36 (.pick (.s 31) (.c (kb true)) (.s 35)) :: cb 37 (.mv (.s 36)) :: cg 38 37 false (.mov 0 (.s 5)) :: cg 39 37 false (.ld true 3 (.s 38)) :: cg 40 37 false (.ld true 3 (.s 6)) :: ch 41 37 false (.bin .eql (.flat [0, 0, 0]) (.s 39) (.s 40)) :: cb 42 (.pick (.s 37) (.c (kb true)) (.s 41)) :: cb 43 (.mv (.s 42)) :: cg 44 43 false (.mov 0 (.s 5)) :: cg 45 43 false (.mov 0 (.s 44)) :: cg 46 43 false (.ld false 1 (.s 45)) :: cg 47 43 false (.mov 0 (.s 6)) :: cg 48 43 false (.ld false 1 (.s 47)) :: ch 49 43 false (.bin .neq .any (.s 46) (.s 48)) :: cb 50 (.pick (.s 43) (.c (kb true)) (.s 49)) :: []) [0, 5, 6, 7, 9, 11, 12, 13, 50]) (.ite (.s 50) (.seq (R [cb 51 (.mv (.s 9)), cb 8 (.tk (.s 51))] [5, 6, 7, 8, 11, 12, 13]) (.ret)) (.skip))) (.seq (R [c0 10 (.tk (.c (kn 13)))] [0, 5, 6, 7, 9, 10, 11, 12, 13]) (.seq (R [c0 52 (.tk (.s 10)), c0 53 (.mv (.s 0)), c0 54 (.app 13 150 false (.s 52) (.s 53)), c0 10 (.tk (.s 54))] [0, 5, 6, 7, 9, 10, 11, 12, 13]) (.seq (R [c0 55 (.tk (.s 10)), c0 56 (.ld true 13 (.s 5)), c0 57 (.bsl 13 [(.s 56)]), c0 58 (.app 13 150 false (.s 55) (.s 57)), c0 10 (.tk (.s 58))] [0, 5, 6, 7, 9, 10, 11, 12, 13]) (.seq (R [c0 59 (.mv (.s 10)), c0 60 (.ld true 3 (.s 6)), c0 61 (.ld true 8 (.s 7)), c0 62 (.call none (.c (kf 38)) [(.s 59), (.s 60), (.s 61)]), c0 11 (.new false (.c (.agg [ki .i64 0, kn 3]))), cn (.st 2 (.s 11) (.s 62))] [0, 5, 6, 7, 9, 11, 12, 13]) (.seq (R [c0 63 (.ld true 3 (.s 6)), c0 64 (.ld true 8 (.s 7)), c0 65 (.ld true 2 (.s 11)), c0 66 (.bld [ki .i64 0, ki .i64 0, ki .i64 0, ki .i64 0, ki .i64 0, ki .i64 0, ks [], ks [], ki .i64 0, ki .i64 0, ki .i64 0, ki .i64 0, kz 3] [(0, 3, (.s 63)), (3, 8, (.s 64)), (11, 2, (.s 65))]), c0 12 (.new false (.c (.agg [ki .i64 0, ki .i64 0, ki .i64 0, ki .i64 0, ki .i64 0, ki .i64 0, ks [], ks [], ki .i64 0, ki .i64 0, ki .i64 0, ki .i64 0, kn 3]))), cn (.st 13 (.s 12) (.s 66))] [0, 5, 6, 7, 9, 11, 12, 13]) (.seq (.seq (R [c0 67 (.mov 3 (.s 5)), c0 68 (.ld true 8 (.s 67)), c0 69 (.ld true 8 (.s 7)), cb 70 (.call none (.c (kf 39)) [(.s 68), (.s 69)])] [0, 5, 6, 7, 9, 11, 12, 13, 70]) (.ite (.s 70) (.seq (R (cb 71 (.mv (.s 9)) :: cb 72 (.mv (.s 71)) :: cg 73 72 true (.mov 1 (.s 11)) :: cg 74 72 true (.ld false 1 (.s 73)) :: cg 75 72 true (.mov 0 (.s 5)) :: cg 76 72 true (.ld true 3 (.s 75)) :: ch 77 72 true (.call none (.c (kf 35)) [(.s 74), (.s 76)]) :: cb 78 (.pick (.s 72) (.s 77) (.c (kb false))) :: cb 79 (.mv (.s 78)) :: cg 80 79 true (.mov 0 (.s 11)) :: cg 81 79 true (.ld false 1 (.s 80)) :: cg 82 79 true (.mov 11 (.s 5)) :: cg 83 79 true (.mov 0 (.s 82)) :: cg 84 79 true (.ld false 1 (.s 83)) :: ch 85 79 true (.bin .gtr .any (.s 81) (.s 84)) :: cb 86 (.pick (.s 79) (.s 85) (.c (kb false))) :: cb 87 (.mv (.s 86)) :: cg 88 87 true (.ld true 13 (.s 5)) :: cg 89 87 true (.ld true 13 (.s 12)) :: ch 90 87 true (.call none (.c (kf 40)) [(.s 88), (.s 89)]) :: cb 91 (.pick (.s 87) (.s 90) (.c (kb false))) :: cb 92 (.mv (.s 91)) :: cg 93 92 true (.ld true 13 (.s 12)) :: cg 94 92 true (.ld true 13 (.s 5)) :: ch 95 92 true (.call none (.c (kf 40)) [(.s 93), (.s 94)]) :: cb 96 (.pick (.s 92) (.s 95) (.c (kb false))) :: cb 8 (.tk (.s 96)) :: []) [5, 6, 7, 8, 11, 12, 13]) (.ret)) (.skip))) (.seq (R [c0 97 (.mv (.s 0)), c0 98 (.ld true 3 (.s 6)), c0 99 (.ld true 8 (.s 7)), c0 100 (.call none (.c (kf 38)) [(.s 97), (.s 98), (.s 99)]), c0 13 (.new false (.c (.agg [ki .i64 0, kn 3]))), cn (.st 2 (.s 13) (.s 100))] [5, 6, 7, 9, 11, 12, 13]) (.seq (R [cb 101 (.mv (.s 9)), cb 102 (.mv (.s 101)), cg 103 102 true (.ld true 2 (.s 11)), cg 104 102 true (.ld true 2 (.s 13)), ch 105 102 true (.call none (.c (kf 33)) [(.s 103), (.s 104)]), cb 106 (.pick (.s 102) (.s 105) (.c (kb false))), cb 8 (.tk (.s 106))] [5, 6, 7, 8, 11, 12, 13]) (.ret))))))))))))
theorem fun9 : Fun Try.prog cfg 9 107 cd9 [.s 8] := ⟨rfl, Try.f9, _, Try.func9, rfl, rfl, by kernel_rfl, by kernel_rfl⟩
@[go_sem] theorem ok9 : calleeOK Try.prog 9 = true := by kernel_rfl
@[go_sem] theorem ex9 : (cfg.ext 9).isSome = false := rfl
variable {h : DHeap}
theorem few1 (x : Kno) (hx : x.att.deps.length ≤ 1099511627776) : lim Try.prog cfg 36 [.list false 13 [knoL x]] h = some (vb (fewP [x]), h) := by
  have := few_lim (h := h) false [x] (by simp)
  exact this
theorem kns_snoc (l : List Kno) (x : Kno) : kns l ++ [[vi x.id.e, vi x.id.n, vi x.id.k, vi x.cmd.client, vi x.cmd.seq, vi x.cmd.op, vs x.cmd.path, vs x.cmd.value, vi x.cmd.version, vi x.cmd.a, vi x.cmd.b, vi x.att.seq, .list false 3 (idr x.att.deps)]] = kns (l ++ [x]) := by simp [kns]
theorem local_not {l : List Kno} {x : Kno} {id : Id} {c : Cmd} (h : matters id c x = false) : localP (l ++ [x]) id c = localP l id c := by
  unfold localP
  rw [List.filter_append]
  simp [h]
set_option maxHeartbeats 4000000 in
theorem attrLinks_lim (own : Bool) (l : List Kno) (x : Kno) (id : Id) (c : Cmd) (hl : l.length ≤ 1048576) (hs : ∀ k ∈ l, KnoB k) (hx : KnoB x) (hc : c.path.length ≤ 1048576) :
    lim Try.prog cfg 9 [.list own 13 (kns l), knoD x, .agg [vi id.e, vi id.n, vi id.k], cmdD c] h = some (vb true, h) := by
  refine lim_funp fun9 rfl (by simp) (by simp [heapFree, heapFree.all, free_idr, free_kns]) rfl ?_
  delta cd9
  have w1 := works11_lim (h := [])
  have f1 := few_lim (h := []) false l (by omega)
  have f2 := few1 (h := []) x (by have := hx.len; omega)
  have o1 := over_lim (h := []) false [c] (by simp)
  simp only [cms, List.map_cons, List.map_nil] at o1
  cases c1 : fewP l with
  | false =>
    rw [c1] at f1
    simp -implicitDefEqProofs -dsimp (maxSteps := 1000000) only [go_sem, w1, f1]
  | true =>
  rw [c1] at f1
  cases c2 : fewP [x] with
  | false =>
    rw [c2] at f2
    simp -implicitDefEqProofs -dsimp (maxSteps := 1000000) only [go_sem, w1, f1, f2]
  | true =>
  rw [c2] at f2
  cases c3 : overP [c] with
  | true =>
    rw [c3] at o1
    simp -implicitDefEqProofs -dsimp (maxSteps := 1000000) only [go_sem, w1, f1, f2, o1]
  | false =>
  rw [c3] at o1
  by_cases c4 : x.att.seq < 0
  · simp -implicitDefEqProofs -dsimp (maxSteps := 1000000) only [go_sem, w1, f1, f2, o1, c4]
  by_cases c5 : x.id = id
  · simp -implicitDefEqProofs -dsimp (maxSteps := 1000000) only [go_sem, w1, f1, f2, o1, c4, eq_true c5]
  by_cases c6 : x.id.e = id.e
  rotate_left
  · simp -implicitDefEqProofs -dsimp (maxSteps := 1000000) only [go_sem, w1, f1, f2, o1, c4, eq_false c5, eq_false c6]
  obtain ⟨g1, g2⟩ := fewP_iff.1 c1
  obtain ⟨g3, g4⟩ := fewP_iff.1 c2
  obtain ⟨g5, g6, g7⟩ := g4 x (by simp)
  have hc' := over1 c3
  have hx' := over1 g6
  have hm1 : ([] : List (List DV)).length + l.length ≤ 1000000 := by simp; omega
  have hp : ∀ y ∈ l ++ [x], y.cmd.path.length ≤ 1099511627776 ∧ y.att.seq ≤ 9223372036854775806 := fun y hy => by
    rcases List.mem_append.1 hy with hy | hy
    · have := g2 y hy; have := over1 this.2.1; exact ⟨by omega, by omega⟩
    · rw [List.mem_singleton.1 hy]; exact ⟨by omega, by omega⟩
  have e1 := local_lim (h := []) false (l ++ [x]) id c (by simp; omega) hp (by omega)
  have e2 := local_lim (h := []) false l id c (by omega) (fun y hy => hp y (List.mem_append_left _ hy)) (by omega)
  have b1 := both_lim (h := []) x.cmd c (by omega) (by omega)
  have q1 : (l.length) * 150 ≤ maxLenD := by unfold maxLenD; omega
  have q2 : (l.length + 1) * 150 ≤ maxLenD := by unfold maxLenD; omega
  have ld : (localP (l ++ [x]) id c).deps.length ≤ 1000 := by
    have h1 := clean_len (locD (l ++ [x]) id c)
    have h2 := locD_len (l ++ [x]) id c
    rw [local_eq]
    simp only [List.length_append, List.length_singleton] at h2
    show (cleanP _).length ≤ 1000
    omega
  cases c7 : bothB x.cmd c with
  | true =>
    rw [c7] at b1
    have hm : matters id c x = true := by simp [matters, c5, c6, c7]
    obtain ⟨s1, s2⟩ := local_sees (l := l) hm
    have h1 := hasD_lim (h := []) false (localP (l ++ [x]) id c).deps x.id (by omega)
    rw [decide_eq_true s1] at h1
    have k1 := linked_lim (h := []) x ⟨id, c, localP (l ++ [x]) id c⟩ (by omega) (by show (localP (l ++ [x]) id c).deps.length ≤ _; omega)
    have k2 := linked_lim (h := []) ⟨id, c, localP (l ++ [x]) id c⟩ x (by show (localP (l ++ [x]) id c).deps.length ≤ _; omega) (by omega)
    rw [show linkedP x ⟨id, c, localP (l ++ [x]) id c⟩ = true by simp [linkedP, s1]] at k1
    rw [show linkedP ⟨id, c, localP (l ++ [x]) id c⟩ x = true by simp [linkedP, s1]] at k2
    generalize localP (l ++ [x]) id c = m at *
    simp -implicitDefEqProofs -dsimp (maxSteps := 1000000) only [go_sem, w1, f1, f2, o1, c4, eq_false c5, eq_true c6, q1, q2, List.nil_append, List.length_nil, Nat.zero_add, kns_snoc, e1, b1, h1, k1, k2, s2]
  | false =>
    rw [c7] at b1
    have hm : matters id c x = false := by simp [matters, c7]
    rw [local_not hm] at e1 ld
    have s1 := sameA_lim (h := []) (localP l id c) (localP l id c) (by omega) (by omega)
    rw [sameA_self] at s1
    generalize localP l id c = m at *
    simp -implicitDefEqProofs -dsimp (maxSteps := 1000000) only [go_sem, w1, f1, f2, o1, c4, eq_false c5, eq_true c6, q1, q2, List.nil_append, List.length_nil, Nat.zero_add, kns_snoc, e1, e2, b1, s1]
end Go.DS

/-
  The row AttrLinks.
-/
namespace Go.Proofs.Ytdiaecagkgbjcaa.attrLinks
open Go.ChangeShapes Go.WideShapes Go.ChangeAt Go.RowKit
open Go.ChangeMaps (open_string shut_string)
open Go.DS
set_option linter.unusedVariables false
set_option linter.unusedSimpArgs false

set_option maxRecDepth 100000 in
theorem contract (H : Type) (enc : TypeId × Value → H) (W : World) (base : Nat) (args : Array Value) (ds gs : List (DataW H)) (before : List MemPlace)
    (hval0 : ∀ (j : Nat) t v, Try.f9.params[j]? = some t → args[j]? = some v → Value.okWide Try.prog W .any base t v)
    (hW : DataW.Whole enc Try.prog Try.f9.params.toList Rows.attrLinksSpec.vars false W args.toList ds gs before) (hk : Rows.uptoSmall H (ds ++ gs) = true) :
    Calls Try.prog 9 args W fun e W' => ∃ v, e = .returned v ∧ Rows.attrLinksSpec.post enc Try.prog Try.f9 false true false false W args v W' := by
  have hval : ∀ (j : Nat) t v, Try.f9.params[j]? = some t → args[j]? = some v → Value.okWide Try.prog W .any base t v := hval0
  have hW' := hW
  obtain ⟨p, q, hA0, hV, rfl, hfz, hnd⟩ := hW
  have hA : DataW.TrodAll enc Try.prog W 0 (fun _ => true) true Try.f9.params.toList args.toList ds p := hA0
  rw [Try.params9] at hA hval
  obtain ⟨v0, vs0, d0, ds0, p0, q0, hargs, rfl, rfl, h0, r0⟩ := trodAll_cons hA
  obtain ⟨v1, vs1, d1, ds1, p1, q1, rfl, rfl, rfl, h1, r1⟩ := trodAll_cons r0
  obtain ⟨v2, vs2, d2, ds2, p2, q2, rfl, rfl, rfl, h2, r2⟩ := trodAll_cons r1
  obtain ⟨v3, vs3, d3, ds3, p3, q3, rfl, rfl, rfl, h3, r3⟩ := trodAll_cons r2
  obtain ⟨rfl, rfl, rfl⟩ := trodAll_nil r3
  obtain rfl : args = #[v0, v1, v2, v3] := by cases args; simp_all
  obtain ⟨rfl, rfl⟩ := trodVars_none hV
  have lt0 : ∀ x ∈ p0, x.block < W.heap.size := by obtain ⟨m, hm⟩ := h0; exact DataW.trod_lt m _ _ _ hm
  have k0 := h0
  obtain ⟨a0, y0, b0⟩ := arg_knos (B := 1048575) (hval 0 78 v0 rfl rfl) h0 (by have hb := of_decide_eq_true hk; simp only [Rows.uptoBulkAll, List.append_nil, List.cons_append, List.nil_append] at hb; omega)
  have lt1 : ∀ x ∈ p1, x.block < W.heap.size := by obtain ⟨m, hm⟩ := h1; exact DataW.trod_lt m _ _ _ hm
  have k1 := h1
  obtain ⟨a1, y1, b1⟩ := arg_kno (B := 1048575) (hval 1 80 v1 rfl rfl) h1 (by have hb := of_decide_eq_true hk; simp only [Rows.uptoBulkAll, List.append_nil, List.cons_append, List.nil_append] at hb; omega)
  have lt2 : ∀ x ∈ p2, x.block < W.heap.size := by obtain ⟨m, hm⟩ := h2; exact DataW.trod_lt m _ _ _ hm
  have k2 := h2
  obtain ⟨a2, y2, b2⟩ := arg_id (B := 1048575) (hval 2 27 v2 rfl rfl) h2 (by have hb := of_decide_eq_true hk; simp only [Rows.uptoBulkAll, List.append_nil, List.cons_append, List.nil_append] at hb; omega)
  have lt3 : ∀ x ∈ p3, x.block < W.heap.size := by obtain ⟨m, hm⟩ := h3; exact DataW.trod_lt m _ _ _ hm
  have k3 := h3
  obtain ⟨a3, y3, b3⟩ := arg_cmd (B := 1048575) (hval 3 33 v3 rfl rfl) h3 (by have hb := of_decide_eq_true hk; simp only [Rows.uptoBulkAll, List.append_nil, List.cons_append, List.nil_append] at hb; omega)
  clear hA0 hval0
  have hb := of_decide_eq_true hk
  simp only [Rows.uptoBulkAll, Rows.uptoBulk, List.append_nil] at hb
  refine (Go.DS.start ext_ok (attrLinks_lim false a0 a1 a2 a3 (by have := b0.1; omega) (fun k hk => ⟨by have := (b0.2 k hk).cmd.path; omega, by have := (b0.2 k hk).att.len; omega⟩) ⟨by have := b1.cmd.path; omega, by have := b1.att.len; omega⟩ (by have := b3.path; omega)) W (vs := #[v0, v1, v2, v3]) (.cons (y0) (.cons (y1) (.cons (y2) (.cons (y3) (.nil _)))))).mono fun e W' ⟨he, bel⟩ => ?_
  subst he
  exact ⟨_, rfl, _, _, _, [], _, [], hW', trodAll_mk1 (shut_bool Try.underlying4 _), (trodAll_cons_mk (Below.trod laidOut' (by kernel_rfl) (of_decide_eq_true (by kernel_rfl)) k0 bel lt0) (trodAll_cons_mk (Below.trod laidOut' (by kernel_rfl) (of_decide_eq_true (by kernel_rfl)) k1 bel lt1) (trodAll_cons_mk (Below.trod laidOut' (by kernel_rfl) (of_decide_eq_true (by kernel_rfl)) k2 bel lt2) (trodAll_cons_mk (Below.trod laidOut' (by kernel_rfl) (of_decide_eq_true (by kernel_rfl)) k3 bel lt3) trodAll_mk0)))), rfl, bel.frame _, fun h => by cases h⟩

set_option maxRecDepth 100000 in
theorem lifted (os : Os) (started : os.Started) (H : Type) (enc : TypeId × Value → H) (F : Stop.Interp) :
    ReturnsInHanded {} Try.checked os 9 .any ((Rows.OpenSpec.upto Rows.attrLinksSpec).pre6 enc Try.prog Try.f9 Rows.attrLinksUptoRow.domain false) (((Rows.OpenSpec.upto Rows.attrLinksSpec).at F).post enc Try.prog Try.f9 false true false false) := by
  refine returnsInHanded_of_cond (C := Try.checked) (s := Rows.OpenSpec.upto Rows.attrLinksSpec) (k := Rows.uptoSmall) rfl own' started (by kernel_rfl) Try.func9
    (OpenSpec.witness (enc := enc) (C := Try.checked) (s := Rows.OpenSpec.upto Rows.attrLinksSpec) (k := Rows.uptoSmall) rfl false ⟨#[], #[.slice none 0 0, .agg #[.int .i64 0, .int .i64 0, .int .i64 0, .int .i64 0, .int .i64 0, .int .i64 0, .string ByteArray.empty, .string ByteArray.empty, .int .i64 0, .int .i64 0, .int .i64 0, .int .i64 0, .slice none 0 0], .agg #[.int .i64 0, .int .i64 0, .int .i64 0], .agg #[.int .i64 0, .int .i64 0, .int .i64 0, .string ByteArray.empty, .string ByteArray.empty, .int .i64 0, .int .i64 0, .int .i64 0]], []⟩ 8 (by kernel_rfl) (by kernel_rfl) (by kernel_rfl)
      (x := ([.nil, .agg [.agg [.lit (.int .i64 0), .lit (.int .i64 0), .lit (.int .i64 0)], .agg [.lit (.int .i64 0), .lit (.int .i64 0), .lit (.int .i64 0), .lit (.string []), .lit (.string []), .lit (.int .i64 0), .lit (.int .i64 0), .lit (.int .i64 0)], .agg [.lit (.int .i64 0), .nil]], .agg [.lit (.int .i64 0), .lit (.int .i64 0), .lit (.int .i64 0)], .agg [.lit (.int .i64 0), .lit (.int .i64 0), .lit (.int .i64 0), .lit (.string []), .lit (.string []), .lit (.int .i64 0), .lit (.int .i64 0), .lit (.int .i64 0)]], [], [])) (by kernel_rfl) rfl (by kernel_rfl)) ?_
  intro W base args ds gs before hval hW _ hk _
  exact contract H enc W base args ds gs before hval hW hk

theorem over : Rows.attrLinksUptoRow.holds Try.pinned (Rows.OpenSpec.upto Rows.attrLinksSpec) :=
  OpenClaim.holds_of_cond 9 Try.f9 rfl rfl rfl rfl rfl rfl rfl ⟨rfl, rfl, rfl, rfl, rfl⟩ rfl rfl rfl rfl rfl (by kernel_rfl) Try.func9 (by kernel_rfl)
    (of_decide_eq_true (by kernel_rfl)) (by unfold Func.isWrapper; first | (rw [if_pos (by decide +kernel)]; kernel_rfl) | (rw [if_neg (by decide +kernel)]; exact ⟨rfl, rfl⟩))
    (fun os started H enc _ F => lifted os started H enc F)

theorem proved : Rows.AttrLinksUptoSaid := over
#print axioms proved
end Go.Proofs.Ytdiaecagkgbjcaa.attrLinks
namespace Go.Proofs.Ytdiaecagkgbjcaa
theorem attrLinks_holds : Rows.AttrLinksUptoSaid := attrLinks.proved
end Go.Proofs.Ytdiaecagkgbjcaa
