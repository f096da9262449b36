/-
  Walks: the law TouchSwaps.
-/
import Derived.Test.YtmkghiigpffhlaaH9
import Derived.WalkKit
import Derived.ProofKit
import Derived.OpenShut
import Derived.ShutString
import Derived.ChangeOld
import Derived.Below
import Derived.JoinedCond
import Derived.Carry
set_option linter.unusedSimpArgs false
set_option linter.unusedVariables false
namespace Go.DS
open Go Go.Proofs
set_option maxRecDepth 100000
set_option linter.unusedVariables false
set_option linter.unusedSimpArgs false
def cd11 : Cd := .seq (R [c0 4 (.new false (.s 1)), c0 5 (.new false (.s 2)), cb 6 (.tk (.c (kb false)))] [0, 4, 5, 11, 12, 13, 14]) (.seq (R [cb 15 (.call none (.c (kf 28)) []), cb 7 (.tk (.s 15))] [0, 4, 5, 7, 11, 12, 13, 14]) (.seq (.seq (R [cb 16 (.mv (.s 7)), cb 17 (.un .not (.s 16))] [0, 4, 5, 7, 11, 12, 13, 14, 17]) (.ite (.s 17) (.seq (R [cb 6 (.tk (.c (kb false)))] [4, 5, 6, 11, 12, 13, 14]) (.ret)) (.skip))) (.seq (.seq (R [c0 18 (.mv (.s 0)), cb 19 (.call none (.c (kf 13)) [(.s 18)]), cb 20 (.mv (.s 19)), cg 21 20 false (.ld true 8 (.s 4)), cg 22 20 false (.ld true 8 (.s 5)), cg 23 20 false (.bsl 8 [(.s 21), (.s 22)]), ch 24 20 false (.call none (.c (kf 13)) [(.s 23)]), cb 25 (.pick (.s 20) (.c (kb true)) (.s 24)), cb 26 (.mv (.s 25)), cg 27 26 false (.ld true 8 (.s 4)), cg 28 26 false (.ld true 8 (.s 5)), ch 29 26 false (.call none (.c (kf 29)) [(.s 27), (.s 28)]), cb 30 (.pick (.s 26) (.c (kb true)) (.s 29))] [0, 4, 5, 7, 11, 12, 13, 14, 30]) (.ite (.s 30) (.seq (R [cb 31 (.tk (.s 7)), cb 6 (.tk (.s 31))] [4, 5, 6, 11, 12, 13, 14]) (.ret)) (.skip))) (.seq (R [c0 32 (.call none (.c (kf 23)) []), c0 8 (.tk (.s 32))] [0, 4, 5, 7, 8, 11, 12, 13, 14]) (.seq (.seq (R [c0 9 (.tk (.c (ki .i64 0)))] [0, 4, 5, 7, 8, 9, 11, 12, 13, 14]) (.block 0 (LP [0, 4, 5, 7, 8, 9, 11, 12, 13, 14] (.seq (.seq (R [c0 33 (.mv (.s 9)), c0 34 (.mv (.s 0)), c0 35 (.len 1 (.s 34)), cb 36 (.bin .lss .any (.s 33) (.s 35))] [0, 4, 5, 7, 8, 9, 11, 12, 13, 14, 36]) (.ite (.s 36) (.skip) (.exit 0))) (.seq (.block 1 (R [c0 39 (.mv (.s 8)), c0 40 (.mv (.s 0)), c0 41 (.mv (.s 9)), c0 42 (.ixp 8 (.s 40) (.s 41)), c0 43 (.ld true 8 (.s 42)), c0 44 (.call none (.c (kf 17)) [(.s 39), (.s 43)])] [0, 4, 5, 7, 8, 9, 11, 12, 13, 14])) (R [c0 37 (.mv (.s 9)), c0 38 (.bin .add .any (.s 37) (.c (ki .i64 1))), c0 9 (.tk (.s 38))] [0, 4, 5, 7, 8, 9, 11, 12, 13, 14])))))) (.seq (R [c0 45 (.mv (.s 8)), c0 46 (.call none (.c (kf 25)) [(.s 45)]), c0 10 (.tk (.s 46))] [4, 5, 7, 8, 10, 11, 12, 13, 14]) (.seq (.seq (R [c0 47 (.mv (.s 10)), cb 48 (.bin .eql .ptr (.s 47) (.c (.sc (.pointer none))))] [4, 5, 7, 8, 10, 11, 12, 13, 14, 48]) (.ite (.s 48) (.seq (R [cb 6 (.tk (.c (kb false)))] [4, 5, 6, 11, 12, 13, 14]) (.ret)) (.skip))) (.seq (R [c0 49 (.mv (.s 8)), c0 50 (.ld true 8 (.s 4)), c0 51 (.call none (.c (kf 17)) [(.s 49), (.s 50)]), c0 11 (.new false (.c (.agg [ki .i64 0, ks [], ki .i64 0, kn 1]))), cn (.st 4 (.s 11) (.s 51))] [4, 5, 7, 8, 10, 11, 12, 13, 14]) (.seq (R [c0 52 (.mv (.s 8)), c0 53 (.ld true 8 (.s 5)), c0 54 (.call none (.c (kf 17)) [(.s 52), (.s 53)]), c0 12 (.new false (.c (.agg [ki .i64 0, ks [], ki .i64 0, kn 1]))), cn (.st 4 (.s 12) (.s 54))] [4, 5, 7, 8, 10, 11, 12, 13, 14]) (.seq (R [c0 55 (.mv (.s 10)), c0 56 (.ld true 8 (.s 5)), c0 57 (.call none (.c (kf 17)) [(.s 55), (.s 56)]), c0 13 (.new false (.c (.agg [ki .i64 0, ks [], ki .i64 0, kn 1]))), cn (.st 4 (.s 13) (.s 57))] [4, 5, 7, 8, 10, 11, 12, 13, 14]) (.seq (R [c0 58 (.mv (.s 10)), c0 59 (.ld true 8 (.s 4)), c0 60 (.call none (.c (kf 17)) [(.s 58), (.s 59)]), c0 14 (.new false (.c (.agg [ki .i64 0, ks [], ki .i64 0, kn 1]))), cn (.st 4 (.s 14) (.s 60))] [4, 5, 7, 8, 10, 11, 12, 13, 14]) (.seq (R [cb 61 (.mv (.s 7)), cb 62 (.mv (.s 61)), cg 63 62 true (.ld true 4 (.s 11)), cg 64 62 true (.ld true 4 (.s 14)), ch 65 62 true (.call none (.c (kf 19)) [(.s 63), (.s 64)]), cb 66 (.pick (.s 62) (.s 65) (.c (kb false))), cb 67 (.mv (.s 66)), cg 68 67 true (.ld true 4 (.s 12)), cg 69 67 true (.ld true 4 (.s 13)), ch 70 67 true (.call none (.c (kf 19)) [(.s 68), (.s 69)]), cb 71 (.pick (.s 67) (.s 70) (.c (kb false))), cb 72 (.mv (.s 71)), cg 73 72 true (.mv (.s 8)), cg 74 72 true (.call none (.c (kf 22)) [(.s 73)]), cg 75 72 true (.mv (.s 10)), cg 76 72 true (.call none (.c (kf 22)) [(.s 75)]), ch 77 72 true (.call none (.c (kf 21)) [(.s 74), (.s 76)]), cb 78 (.pick (.s 72) (.s 77) (.c (kb false))), cb 6 (.tk (.s 78))] [4, 5, 6, 11, 12, 13, 14]) (.ret)))))))))))))
theorem fun11 : Fun Try.prog cfg 11 79 cd11 [.s 6] := ⟨rfl, Try.f11, _, Try.func11, rfl, rfl, by kernel_rfl, by kernel_rfl⟩
@[go_sem] theorem ok11 : calleeOK Try.prog 11 = true := by kernel_rfl
@[go_sem] theorem ex11 : (cfg.ext 11).isSome = false := rfl
variable {h : DHeap}
@[go_sem] theorem ok28 : calleeOK Try.prog 28 = true := by kernel_rfl
@[go_sem] theorem ex28 : (cfg.ext 28).isSome = false := rfl
theorem works8s_lim : lim Try.prog cfg 28 [] h = some (vb true, h) := lim_of (n := 60) (by kernel_rfl)
set_option maxHeartbeats 2000000 in
theorem touchSwaps_lim (own : Bool) (l : List Cmd) (a b : Cmd) (hl : l.length ≤ 1048576) (hs : ∀ x ∈ l, x.path.length ≤ 1048576) (ha : a.path.length ≤ 1048576) (hb : b.path.length ≤ 1048576) :
    lim Try.prog cfg 11 [.list own 8 (cms l), cmdD a, cmdD b] h = some (vb true, h) := by
  refine lim_funp fun11 rfl (by simp) (by simp [heapFree, heapFree.all, free_cms]) rfl ?_
  delta cd11
  have w7 := works8s_lim (h := [])
  have o1 := over_lim (h := []) false l (by omega)
  have o2 := over_lim (h := []) false [a, b] (by simp)
  simp only [cms, List.map_cons, List.map_nil] at o2
  have pp := paths_lim (h := []) a b (by omega) (by omega)
  have n0 := new0
  cases e1 : overP l with
  | true =>
    rw [e1] at o1
    simp -implicitDefEqProofs -dsimp only [go_sem, wp_RD, w7, o1, o2, pp, n0]
  | false =>
  rw [e1] at o1
  cases e2 : overP [a, b] with
  | true =>
    rw [e2] at o2
    simp -implicitDefEqProofs -dsimp only [go_sem, wp_RD, w7, o1, o2, pp, n0]
  | false =>
  rw [e2] at o2
  cases e3 : pathsB a b with
  | true =>
    rw [e3] at pp
    simp -implicitDefEqProofs -dsimp only [go_sem, wp_RD, w7, o1, o2, pp, n0]
  | false =>
  rw [e3] at pp
  simp -implicitDefEqProofs -dsimp only [go_sem, wp_RD, w7, o1, o2, pp, n0]
  have O := fun k => doAll_ok (dirOK_nil 0 0) (l.take k)
  have hq : l.length ≤ 60 := Decidable.byContradiction fun h1 => by simp [overP, Nat.not_le.1 h1] at e1
  refine wp_for (σ := Nat) (fun k => [(0, .list false 8 (cms l)), (4, .box (cmdL a)), (5, .box (cmdL b)), (7, vb true), (8, .ptr 1 0), (9, vi (k : Nat)), (11, .junk), (12, .junk), (13, .junk), (14, .junk)]) (fun k => hD (doAll [] (l.take k))) (fun k => l.length - k) (fun k => k ≤ l.length) 0 (Nat.zero_le _) rfl rfl ?_
  rintro k hk N hN
  have Ok := O k
  have hln : (l.take k).length = k := by rw [List.length_take]; omega
  rw [hln] at Ok
  by_cases hlt : k < l.length
  · have h1 : (k : Int) < (l.length : Int) := by omega
    have a1 := applyD Ok (by omega) (by omega) l[k] (by have := hs _ (List.getElem_mem hlt); omega)
    have hd : doAll [] (l.take (k + 1)) = (applyP (doAll [] (l.take k)) l[k]).2 := by rw [List.take_succ_eq_append_getElem hlt, doAll_snoc]
    simp -implicitDefEqProofs -dsimp only [go_sem, h1, hlt, a1]
    rw [← hd]
    refine hN (k + 1) _ (by omega) (by omega) ?_
    simp -implicitDefEqProofs -dsimp only [go_sem, wrap_succ (show k < 9223372036854775807 by omega)]
  · have h1 : ¬ (k : Int) < (l.length : Int) := by omega
    generalize hes : doAll [] (l.take k) = es at *
    have hle := Ok.len
    have f0 : lim Try.prog cfg 25 [.ptr 1 0] (hD es) = some (.ptr 3 0, hD2 es es) := dclone_lim (atD es)
    have A1 := applyP_ok Ok a
    have A2 := applyP_ok A1 b
    have B1 := applyP_ok Ok b
    have B2 := applyP_ok B1 a
    obtain ⟨s1, s2, s3⟩ := swaps_plain Ok e3
    have q := entries_congr A2 B2 s3
    have g1 := applyD2 es Ok (by omega) (by omega) a (by omega)
    have g2 := applyD2 es A1 (by omega) (by omega) b (by omega)
    have g3 := applyD2' (applyP (applyP es a).2 b).2 Ok (by omega) (by omega) b (by omega)
    have g4 := applyD2' (applyP (applyP es a).2 b).2 B1 (by omega) (by omega) a (by omega)
    have f1 := entries_lim (atD2 (applyP (applyP es a).2 b).2 (applyP (applyP es b).2 a).2) A2 (hbD2 _ _) (by omega)
    have f2 := entries_lim (atD2' (applyP (applyP es a).2 b).2 (applyP (applyP es b).2 a).2) B2 (hbD2 _ _) (by omega)
    rw [q] at f1
    rw [s1] at g4
    rw [s2] at g2
    have n1 := (apply_names es a).1
    have n2 := (apply_names es b).1
    have l2 := entries_len (applyP (applyP es b).2 a).2
    have := B2.len
    have r1 := same_lim (h := hD2 (applyP (applyP es a).2 b).2 (applyP (applyP es b).2 a).2) false false (applyP es a).1 (applyP es a).1 (by omega)
    have r2 := same_lim (h := hD2 (applyP (applyP es a).2 b).2 (applyP (applyP es b).2 a).2) false false (applyP es b).1 (applyP es b).1 (by omega)
    have r3 := row_lim (h := hD2 (applyP (applyP es a).2 b).2 (applyP (applyP es b).2 a).2) false false (entriesP (applyP (applyP es b).2 a).2) (entriesP (applyP (applyP es b).2 a).2) (by omega)
    rw [decide_eq_true rfl] at r1 r2 r3
    generalize hD2 (applyP (applyP es a).2 b).2 (applyP (applyP es b).2 a).2 = H5 at *
    generalize hD2 (applyP (applyP es a).2 b).2 (applyP es b).2 = H4 at *
    generalize hD2 (applyP (applyP es a).2 b).2 es = H3 at *
    generalize hD2 (applyP es a).2 es = H2 at *
    generalize hD2 es es = H1 at *
    generalize hD es = H0 at *
    generalize (applyP es a).1 = Ra at *
    generalize (applyP es b).1 = Rb at *
    simp -implicitDefEqProofs -dsimp only [go_sem, wp_RD, h1, f0, f1, f2, g1, g2, g3, g4, r1, r2, r3]
end Go.DS

/-
  The row TouchSwaps.
-/
namespace Go.Proofs.Ytmkghiigpffhlaa.touchSwaps
open Go.ChangeShapes Go.WideShapes Go.ChangeAt Go.RowKit
open Go.ChangeMaps (open_string shut_string)
open Go.DS
set_option linter.unusedVariables false
set_option linter.unusedSimpArgs false

set_option maxRecDepth 100000 in
theorem contract (H : Type) (enc : TypeId × Value → H) (W : World) (base : Nat) (args : Array Value) (ds gs : List (DataW H)) (before : List MemPlace)
    (hval0 : ∀ (j : Nat) t v, Try.f11.params[j]? = some t → args[j]? = some v → Value.okWide Try.prog W .any base t v)
    (hW : DataW.Whole enc Try.prog Try.f11.params.toList Rows.touchSwapsSpec.vars false W args.toList ds gs before) (hk : Rows.uptoSmall H (ds ++ gs) = true) :
    Calls Try.prog 11 args W fun e W' => ∃ v, e = .returned v ∧ Rows.touchSwapsSpec.post enc Try.prog Try.f11 false true false false W args v W' := by
  have hval : ∀ (j : Nat) t v, Try.f11.params[j]? = some t → args[j]? = some v → Value.okWide Try.prog W .any base t v := hval0
  have hW' := hW
  obtain ⟨p, q, hA0, hV, rfl, hfz, hnd⟩ := hW
  have hA : DataW.TrodAll enc Try.prog W 0 (fun _ => true) true Try.f11.params.toList args.toList ds p := hA0
  rw [Try.params11] at hA hval
  obtain ⟨v0, vs0, d0, ds0, p0, q0, hargs, rfl, rfl, h0, r0⟩ := trodAll_cons hA
  obtain ⟨v1, vs1, d1, ds1, p1, q1, rfl, rfl, rfl, h1, r1⟩ := trodAll_cons r0
  obtain ⟨v2, vs2, d2, ds2, p2, q2, rfl, rfl, rfl, h2, r2⟩ := trodAll_cons r1
  obtain ⟨rfl, rfl, rfl⟩ := trodAll_nil r2
  obtain rfl : args = #[v0, v1, v2] := by cases args; simp_all
  obtain ⟨rfl, rfl⟩ := trodVars_none hV
  have lt0 : ∀ x ∈ p0, x.block < W.heap.size := by obtain ⟨m, hm⟩ := h0; exact DataW.trod_lt m _ _ _ hm
  have k0 := h0
  obtain ⟨a0, y0, b0⟩ := arg_cmds (B := 1048575) (hval 0 23 v0 rfl rfl) h0 (by have hb := of_decide_eq_true hk; simp only [Rows.uptoBulkAll, List.append_nil, List.cons_append, List.nil_append] at hb; omega)
  have lt1 : ∀ x ∈ p1, x.block < W.heap.size := by obtain ⟨m, hm⟩ := h1; exact DataW.trod_lt m _ _ _ hm
  have k1 := h1
  obtain ⟨a1, y1, b1⟩ := arg_cmd (B := 1048575) (hval 1 40 v1 rfl rfl) h1 (by have hb := of_decide_eq_true hk; simp only [Rows.uptoBulkAll, List.append_nil, List.cons_append, List.nil_append] at hb; omega)
  have lt2 : ∀ x ∈ p2, x.block < W.heap.size := by obtain ⟨m, hm⟩ := h2; exact DataW.trod_lt m _ _ _ hm
  have k2 := h2
  obtain ⟨a2, y2, b2⟩ := arg_cmd (B := 1048575) (hval 2 40 v2 rfl rfl) h2 (by have hb := of_decide_eq_true hk; simp only [Rows.uptoBulkAll, List.append_nil, List.cons_append, List.nil_append] at hb; omega)
  clear hA0 hval0
  have hb := of_decide_eq_true hk
  simp only [Rows.uptoBulkAll, Rows.uptoBulk, List.append_nil] at hb
  refine (Go.DS.start ext_ok (touchSwaps_lim false a0 a1 a2 (by have := b0.1; omega) (fun x hx => by have := (b0.2 x hx).path; omega) (by have := b1.path; omega) (by have := b2.path; omega)) W (vs := #[v0, v1, v2]) (.cons (y0) (.cons (y1) (.cons (y2) (.nil _))))).mono fun e W' ⟨he, bel⟩ => ?_
  subst he
  exact ⟨_, rfl, _, _, _, [], _, [], hW', trodAll_mk1 (shut_bool Try.underlying4 _), (trodAll_cons_mk (Below.trod laidOut' (by kernel_rfl) (of_decide_eq_true (by kernel_rfl)) k0 bel lt0) (trodAll_cons_mk (Below.trod laidOut' (by kernel_rfl) (of_decide_eq_true (by kernel_rfl)) k1 bel lt1) (trodAll_cons_mk (Below.trod laidOut' (by kernel_rfl) (of_decide_eq_true (by kernel_rfl)) k2 bel lt2) trodAll_mk0))), rfl, bel.frame _, fun h => by cases h⟩

set_option maxRecDepth 100000 in
theorem lifted (os : Os) (started : os.Started) (H : Type) (enc : TypeId × Value → H) (F : Stop.Interp) :
    ReturnsInHanded {} Try.checked os 11 .any ((Rows.OpenSpec.upto Rows.touchSwapsSpec).pre6 enc Try.prog Try.f11 Rows.touchSwapsUptoRow.domain false) (((Rows.OpenSpec.upto Rows.touchSwapsSpec).at F).post enc Try.prog Try.f11 false true false false) := by
  refine returnsInHanded_of_cond (C := Try.checked) (s := Rows.OpenSpec.upto Rows.touchSwapsSpec) (k := Rows.uptoSmall) rfl own' started (by kernel_rfl) Try.func11
    (OpenSpec.witness (enc := enc) (C := Try.checked) (s := Rows.OpenSpec.upto Rows.touchSwapsSpec) (k := Rows.uptoSmall) rfl false ⟨#[], #[.slice none 0 0, .agg #[.int .i64 0, .int .i64 0, .int .i64 0, .string ByteArray.empty, .string ByteArray.empty, .int .i64 0, .int .i64 0, .int .i64 0], .agg #[.int .i64 0, .int .i64 0, .int .i64 0, .string ByteArray.empty, .string ByteArray.empty, .int .i64 0, .int .i64 0, .int .i64 0]], []⟩ 8 (by kernel_rfl) (by kernel_rfl) (by kernel_rfl)
      (x := ([.nil, .agg [.lit (.int .i64 0), .lit (.int .i64 0), .lit (.int .i64 0), .lit (.string []), .lit (.string []), .lit (.int .i64 0), .lit (.int .i64 0), .lit (.int .i64 0)], .agg [.lit (.int .i64 0), .lit (.int .i64 0), .lit (.int .i64 0), .lit (.string []), .lit (.string []), .lit (.int .i64 0), .lit (.int .i64 0), .lit (.int .i64 0)]], [], [])) (by kernel_rfl) rfl (by kernel_rfl)) ?_
  intro W base args ds gs before hval hW _ hk _
  exact contract H enc W base args ds gs before hval hW hk

theorem over : Rows.touchSwapsUptoRow.holds Try.pinned (Rows.OpenSpec.upto Rows.touchSwapsSpec) :=
  OpenClaim.holds_of_cond 11 Try.f11 rfl rfl rfl rfl rfl rfl rfl ⟨rfl, rfl, rfl, rfl, rfl⟩ rfl rfl rfl rfl rfl (by kernel_rfl) Try.func11 (by kernel_rfl)
    (of_decide_eq_true (by kernel_rfl)) (by unfold Func.isWrapper; first | (rw [if_pos (by decide +kernel)]; kernel_rfl) | (rw [if_neg (by decide +kernel)]; exact ⟨rfl, rfl⟩))
    (fun os started H enc _ F => lifted os started H enc F)

theorem proved : Rows.TouchSwapsUptoSaid := over
#print axioms proved
end Go.Proofs.Ytmkghiigpffhlaa.touchSwaps
namespace Go.Proofs.Ytmkghiigpffhlaa
theorem touchSwaps_holds : Rows.TouchSwapsUptoSaid := touchSwaps.proved
end Go.Proofs.Ytmkghiigpffhlaa
