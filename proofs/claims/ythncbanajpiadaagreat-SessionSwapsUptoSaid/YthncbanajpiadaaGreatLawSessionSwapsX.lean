/-
  Walks: the law SessionSwaps.
-/
import Derived.Test.YthncbanajpiadaaGreatH9
import Derived.WalkKit
import Derived.ProofKit
import Derived.OpenShut
import Derived.ShutString
import Derived.ChangeOld
import Derived.Below
import Derived.JoinedCond
import Derived.Carry
set_option linter.unusedSimpArgs false
set_option linter.unusedVariables false
namespace Go.DS
open Go Go.Proofs
set_option maxRecDepth 100000
set_option linter.unusedVariables false
set_option linter.unusedSimpArgs false
def cd8 : Cd := .seq (R [c0 4 (.new false (.s 1)), c0 5 (.new false (.s 2)), cb 6 (.tk (.c (kb false)))] [0, 4, 5, 11, 12, 13, 14]) (.seq (R [cb 15 (.call none (.c (kf 10)) []), cb 7 (.tk (.s 15))] [0, 4, 5, 7, 11, 12, 13, 14]) (.seq (.seq (R [cb 16 (.mv (.s 7)), cb 17 (.un .not (.s 16))] [0, 4, 5, 7, 11, 12, 13, 14, 17]) (.ite (.s 17) (.seq (R [cb 6 (.tk (.c (kb false)))] [4, 5, 6, 11, 12, 13, 14]) (.ret)) (.skip))) (.seq (.seq (R [c0 18 (.mv (.s 0)), cb 19 (.call none (.c (kf 11)) [(.s 18)]), cb 20 (.mv (.s 19)), cg 21 20 false (.ld true 8 (.s 4)), cg 22 20 false (.ld true 8 (.s 5)), cg 23 20 false (.bsl 8 [(.s 21), (.s 22)]), ch 24 20 false (.call none (.c (kf 11)) [(.s 23)]), cb 25 (.pick (.s 20) (.c (kb true)) (.s 24)), cb 26 (.mv (.s 25)), cg 27 26 false (.ld true 8 (.s 4)), cg 28 26 false (.ld true 8 (.s 5)), ch 29 26 false (.call none (.c (kf 22)) [(.s 27), (.s 28)]), cb 30 (.pick (.s 26) (.c (kb true)) (.s 29))] [0, 4, 5, 7, 11, 12, 13, 14, 30]) (.ite (.s 30) (.seq (R [cb 31 (.tk (.s 7)), cb 6 (.tk (.s 31))] [4, 5, 6, 11, 12, 13, 14]) (.ret)) (.skip))) (.seq (R [c0 32 (.call none (.c (kf 13)) []), c0 8 (.tk (.s 32))] [0, 4, 5, 7, 8, 11, 12, 13, 14]) (.seq (.seq (R [c0 9 (.tk (.c (ki .i64 0)))] [0, 4, 5, 7, 8, 9, 11, 12, 13, 14]) (.block 0 (LP [0, 4, 5, 7, 8, 9, 11, 12, 13, 14] (.seq (.seq (R [c0 33 (.mv (.s 9)), c0 34 (.mv (.s 0)), c0 35 (.len 1 (.s 34)), cb 36 (.bin .lss .any (.s 33) (.s 35))] [0, 4, 5, 7, 8, 9, 11, 12, 13, 14, 36]) (.ite (.s 36) (.skip) (.exit 0))) (.seq (.block 1 (R [c0 39 (.mv (.s 8)), c0 40 (.mv (.s 0)), c0 41 (.mv (.s 9)), c0 42 (.ixp 8 (.s 40) (.s 41)), c0 43 (.ld true 8 (.s 42)), c0 44 (.bld [ki .i64 0, ks [], ki .i64 0, kz 1] []), c0 45 (.call none (.c (kf 14)) [(.s 39), (.s 43), (.s 44)])] [0, 4, 5, 7, 8, 9, 11, 12, 13, 14])) (R [c0 37 (.mv (.s 9)), c0 38 (.bin .add .any (.s 37) (.c (ki .i64 1))), c0 9 (.tk (.s 38))] [0, 4, 5, 7, 8, 9, 11, 12, 13, 14])))))) (.seq (R [c0 46 (.mv (.s 8)), c0 47 (.call none (.c (kf 15)) [(.s 46)]), c0 10 (.tk (.s 47))] [4, 5, 7, 8, 10, 11, 12, 13, 14]) (.seq (.seq (R [c0 48 (.mv (.s 10)), cb 49 (.bin .eql .ptr (.s 48) (.c (.sc (.pointer none))))] [4, 5, 7, 8, 10, 11, 12, 13, 14, 49]) (.ite (.s 49) (.seq (R [cb 6 (.tk (.c (kb false)))] [4, 5, 6, 11, 12, 13, 14]) (.ret)) (.skip))) (.seq (R [c0 50 (.mv (.s 8)), c0 51 (.ld true 8 (.s 4)), c0 52 (.bld [ki .i64 0, ks [], ki .i64 0, kz 1] []), c0 53 (.call none (.c (kf 14)) [(.s 50), (.s 51), (.s 52)]), c0 11 (.new false (.c (.agg [ki .i64 0, ks [], ki .i64 0, kn 1]))), cn (.st 4 (.s 11) (.s 53))] [4, 5, 7, 8, 10, 11, 12, 13, 14]) (.seq (R [c0 54 (.mv (.s 8)), c0 55 (.ld true 8 (.s 5)), c0 56 (.bld [ki .i64 0, ks [], ki .i64 0, kz 1] []), c0 57 (.call none (.c (kf 14)) [(.s 54), (.s 55), (.s 56)]), c0 12 (.new false (.c (.agg [ki .i64 0, ks [], ki .i64 0, kn 1]))), cn (.st 4 (.s 12) (.s 57))] [4, 5, 7, 8, 10, 11, 12, 13, 14]) (.seq (R [c0 58 (.mv (.s 10)), c0 59 (.ld true 8 (.s 5)), c0 60 (.bld [ki .i64 0, ks [], ki .i64 0, kz 1] []), c0 61 (.call none (.c (kf 14)) [(.s 58), (.s 59), (.s 60)]), c0 13 (.new false (.c (.agg [ki .i64 0, ks [], ki .i64 0, kn 1]))), cn (.st 4 (.s 13) (.s 61))] [4, 5, 7, 8, 10, 11, 12, 13, 14]) (.seq (R [c0 62 (.mv (.s 10)), c0 63 (.ld true 8 (.s 4)), c0 64 (.bld [ki .i64 0, ks [], ki .i64 0, kz 1] []), c0 65 (.call none (.c (kf 14)) [(.s 62), (.s 63), (.s 64)]), c0 14 (.new false (.c (.agg [ki .i64 0, ks [], ki .i64 0, kn 1]))), cn (.st 4 (.s 14) (.s 65))] [4, 5, 7, 8, 10, 11, 12, 13, 14]) (.seq (R [cb 66 (.mv (.s 7)), cb 67 (.mv (.s 66)), cg 68 67 true (.ld true 4 (.s 11)), cg 69 67 true (.ld true 4 (.s 14)), ch 70 67 true (.call none (.c (kf 16)) [(.s 68), (.s 69)]), cb 71 (.pick (.s 67) (.s 70) (.c (kb false))), cb 72 (.mv (.s 71)), cg 73 72 true (.ld true 4 (.s 12)), cg 74 72 true (.ld true 4 (.s 13)), ch 75 72 true (.call none (.c (kf 16)) [(.s 73), (.s 74)]), cb 76 (.pick (.s 72) (.s 75) (.c (kb false))), cb 77 (.mv (.s 76)), cg 78 77 true (.mv (.s 8)), cg 79 77 true (.mv (.s 10)), ch 80 77 true (.call none (.c (kf 17)) [(.s 78), (.s 79)]), cb 81 (.pick (.s 77) (.s 80) (.c (kb false))), cb 6 (.tk (.s 81))] [4, 5, 6, 11, 12, 13, 14]) (.ret)))))))))))))
theorem fun8 : Fun Tryz.prog cfg 8 82 cd8 [.s 6] := ⟨rfl, Tryz.f8, _, Tryz.func8, rfl, rfl, by kernel_rfl, by kernel_rfl⟩
@[go_sem] theorem ok8 : calleeOK Tryz.prog 8 = true := by kernel_rfl
@[go_sem] theorem ex8 : (cfg.ext 8).isSome = false := rfl
variable {h : DHeap}
set_option maxHeartbeats 4000000 in
theorem sessionSwaps_lim (own : Bool) (l : List Cmd) (a b : Cmd) (hl : l.length ≤ 1048576) (hs : ∀ x ∈ l, x.path.length ≤ 1048576) (ha : a.path.length ≤ 1048576) (hb : b.path.length ≤ 1048576) :
    lim Tryz.prog cfg 8 [.list own 8 (cms l), cmdD a, cmdD b] h = some (vb true, h) := by
  refine lim_funp fun8 rfl (by simp) (by simp [heapFree, heapFree.all, free_cms]) rfl ?_
  delta cd8
  have w9 := works9_lim (h := [])
  have n0 := snew1
  have o1 := over_lim (h := []) false l (by omega)
  have o2 := over_lim (h := []) false [a, b] (by simp)
  simp only [cms, List.map_cons, List.map_nil] at o2
  have bb := both_lim (h := []) a b (by omega) (by omega)
  cases e1 : overP l with
  | true =>
    rw [e1] at o1
    simp -implicitDefEqProofs -dsimp (maxSteps := 1000000) only [go_sem, wp_RD, w9, o1, o2, bb, n0]
  | false =>
  rw [e1] at o1
  cases e2 : overP [a, b] with
  | true =>
    rw [e2] at o2
    simp -implicitDefEqProofs -dsimp (maxSteps := 1000000) only [go_sem, wp_RD, w9, o1, o2, bb, n0]
  | false =>
  rw [e2] at o2
  cases e3 : bothB a b with
  | true =>
    rw [e3] at bb
    simp -implicitDefEqProofs -dsimp (maxSteps := 1000000) only [go_sem, wp_RD, w9, o1, o2, bb, n0]
  | false =>
  rw [e3] at bb
  have hq : l.length ≤ 60 := Decidable.byContradiction fun h1 => by simp [overP, Nat.not_le.1 h1] at e1
  simp -implicitDefEqProofs -dsimp (maxSteps := 1000000) only [go_sem, wp_RD, w9, o1, o2, bb, n0]
  refine wp_for (σ := Nat) (fun k => [(0, .list false 8 (cms l)), (4, .box (cmdL a)), (5, .box (cmdL b)), (7, vb true), (8, .ptr 3 0), (9, vi (k : Nat)), (11, .junk), (12, .junk), (13, .junk), (14, .junk)]) (fun k => h1S (sall (l.take k) 0)) (fun k => l.length - k) (fun k => k ≤ l.length) 0 (Nat.zero_le _) rfl rfl ?_
  rintro k hk N hN
  have Ok := sall_ok l 0 k hk
  by_cases hlt : k < l.length
  · have h1 : (k : Int) < (l.length : Int) := by omega
    have a1 := sa1 Ok (by omega) (by omega) l[k] 0 (hs _ (List.getElem_mem hlt))
    rw [← sall_snoc l 0 k hlt] at a1
    simp -implicitDefEqProofs -dsimp (maxSteps := 1000000) only [go_sem, h1, hlt, a1]
    refine hN (k + 1) _ (by omega) (by omega) ?_
    simp -implicitDefEqProofs -dsimp only [go_sem, wrap_succ (show k < 9223372036854775807 by omega)]
  · have h1 : ¬ (k : Int) < (l.length : Int) := by omega
    have hkl : k = l.length := by omega
    generalize hx : sall (l.take k) 0 = x at *
    have f0 := scl1 x
    have A1 := sess_ok Ok a (ctl := {}) ⟨Nat.zero_le _, by simp⟩
    have A2 := sess_ok A1 b (ctl := {}) ⟨Nat.zero_le _, by simp⟩
    have B1 := sess_ok Ok b (ctl := {}) ⟨Nat.zero_le _, by simp⟩
    have B2 := sess_ok B1 a (ctl := {}) ⟨Nat.zero_le _, by simp⟩
    obtain ⟨s1, s2, s3⟩ := sess_swaps Ok e3 {}
    have g1 := sa21 x Ok (by omega) (by omega) a 0 ha
    have g2 := sa21 x A1 (by omega) (by omega) b 0 hb
    have g3 := sa22 (sessP (sessP x a {}).2 b {}).2 Ok (by omega) (by omega) b 0 hb
    have g4 := sa22 (sessP (sessP x a {}).2 b {}).2 B1 (by omega) (by omega) a 0 ha
    rw [s1] at g4
    rw [s2] at g2
    have n1 := sess_names Ok a (ctl := {}) (Nat.zero_le _)
    have n2 := sess_names Ok b (ctl := {}) (Nat.zero_le _)
    have r1 := same_lim (h := h2S (sessP (sessP x a {}).2 b {}).2 (sessP (sessP x b {}).2 a {}).2) false false (sessP x a {}).1 (sessP x a {}).1 (by omega)
    have r2 := same_lim (h := h2S (sessP (sessP x a {}).2 b {}).2 (sessP (sessP x b {}).2 a {}).2) false false (sessP x b {}).1 (sessP x b {}).1 (by omega)
    have r3 := ssame2 A2 B2 (by omega) (by omega) s3
    rw [decide_eq_true rfl] at r1 r2
    generalize h2S (sessP (sessP x a {}).2 b {}).2 (sessP (sessP x b {}).2 a {}).2 = H5 at *
    generalize h2S (sessP (sessP x a {}).2 b {}).2 (sessP x b {}).2 = H4 at *
    generalize h2S (sessP (sessP x a {}).2 b {}).2 x = H3 at *
    generalize h2S (sessP x a {}).2 x = H2 at *
    generalize h2S x x = H1 at *
    generalize h1S x = H0 at *
    generalize (sessP x a {}).1 = ra at *
    generalize (sessP x b {}).1 = rb at *
    simp -implicitDefEqProofs -dsimp (maxSteps := 1000000) only [go_sem, wp_RD, h1, f0, g1, g2, g3, g4, r1, r2, r3]
end Go.DS

/-
  The row SessionSwaps.
-/
namespace Go.Proofs.YthncbanajpiadaaGreat.sessionSwaps
open Go.ChangeShapes Go.WideShapes Go.ChangeAt Go.RowKit
open Go.ChangeMaps (open_string shut_string)
open Go.DS
set_option linter.unusedVariables false
set_option linter.unusedSimpArgs false

set_option maxRecDepth 100000 in
theorem contract (H : Type) (enc : TypeId × Value → H) (W : World) (base : Nat) (args : Array Value) (ds gs : List (DataW H)) (before : List MemPlace)
    (hval0 : ∀ (j : Nat) t v, Tryz.f8.params[j]? = some t → args[j]? = some v → Value.okWide Tryz.prog W .any base t v)
    (hW : DataW.Whole enc Tryz.prog Tryz.f8.params.toList Rows.sessionSwapsSpec.vars false W args.toList ds gs before) (hk : Rows.uptoSmall H (ds ++ gs) = true) :
    Calls Tryz.prog 8 args W fun e W' => ∃ v, e = .returned v ∧ Rows.sessionSwapsSpec.post enc Tryz.prog Tryz.f8 false true false false W args v W' := by
  have hval : ∀ (j : Nat) t v, Tryz.f8.params[j]? = some t → args[j]? = some v → Value.okWide Tryz.prog W .any base t v := hval0
  have hW' := hW
  obtain ⟨p, q, hA0, hV, rfl, hfz, hnd⟩ := hW
  have hA : DataW.TrodAll enc Tryz.prog W 0 (fun _ => true) true Tryz.f8.params.toList args.toList ds p := hA0
  rw [Tryz.params8] at hA hval
  obtain ⟨v0, vs0, d0, ds0, p0, q0, hargs, rfl, rfl, h0, r0⟩ := trodAll_cons hA
  obtain ⟨v1, vs1, d1, ds1, p1, q1, rfl, rfl, rfl, h1, r1⟩ := trodAll_cons r0
  obtain ⟨v2, vs2, d2, ds2, p2, q2, rfl, rfl, rfl, h2, r2⟩ := trodAll_cons r1
  obtain ⟨rfl, rfl, rfl⟩ := trodAll_nil r2
  obtain rfl : args = #[v0, v1, v2] := by cases args; simp_all
  obtain ⟨rfl, rfl⟩ := trodVars_none hV
  have lt0 : ∀ x ∈ p0, x.block < W.heap.size := by obtain ⟨m, hm⟩ := h0; exact DataW.trod_lt m _ _ _ hm
  have k0 := h0
  obtain ⟨a0, y0, b0⟩ := arg_cmds (B := 1048575) (hval 0 22 v0 rfl rfl) h0 (by have hb := of_decide_eq_true hk; simp only [Rows.uptoBulkAll, List.append_nil, List.cons_append, List.nil_append] at hb; omega)
  have lt1 : ∀ x ∈ p1, x.block < W.heap.size := by obtain ⟨m, hm⟩ := h1; exact DataW.trod_lt m _ _ _ hm
  have k1 := h1
  obtain ⟨a1, y1, b1⟩ := arg_cmd (B := 1048575) (hval 1 25 v1 rfl rfl) h1 (by have hb := of_decide_eq_true hk; simp only [Rows.uptoBulkAll, List.append_nil, List.cons_append, List.nil_append] at hb; omega)
  have lt2 : ∀ x ∈ p2, x.block < W.heap.size := by obtain ⟨m, hm⟩ := h2; exact DataW.trod_lt m _ _ _ hm
  have k2 := h2
  obtain ⟨a2, y2, b2⟩ := arg_cmd (B := 1048575) (hval 2 25 v2 rfl rfl) h2 (by have hb := of_decide_eq_true hk; simp only [Rows.uptoBulkAll, List.append_nil, List.cons_append, List.nil_append] at hb; omega)
  clear hA0 hval0
  have hb := of_decide_eq_true hk
  simp only [Rows.uptoBulkAll, Rows.uptoBulk, List.append_nil] at hb
  refine (Go.DS.start ext_ok (sessionSwaps_lim false a0 a1 a2 (by have := b0.1; omega) (fun x hx => by have := (b0.2 x hx).path; omega) (by have := b1.path; omega) (by have := b2.path; omega)) W (vs := #[v0, v1, v2]) (.cons (y0) (.cons (y1) (.cons (y2) (.nil _))))).mono fun e W' ⟨he, bel⟩ => ?_
  subst he
  exact ⟨_, rfl, _, _, _, [], _, [], hW', trodAll_mk1 (shut_bool Tryz.underlying4 _), (trodAll_cons_mk (Below.trod laidOut' (by kernel_rfl) (of_decide_eq_true (by kernel_rfl)) k0 bel lt0) (trodAll_cons_mk (Below.trod laidOut' (by kernel_rfl) (of_decide_eq_true (by kernel_rfl)) k1 bel lt1) (trodAll_cons_mk (Below.trod laidOut' (by kernel_rfl) (of_decide_eq_true (by kernel_rfl)) k2 bel lt2) trodAll_mk0))), rfl, bel.frame _, fun h => by cases h⟩

set_option maxRecDepth 100000 in
theorem lifted (os : Os) (started : os.Started) (H : Type) (enc : TypeId × Value → H) (F : Stop.Interp) :
    ReturnsInHanded {} Tryz.checked os 8 .any ((Rows.OpenSpec.upto Rows.sessionSwapsSpec).pre6 enc Tryz.prog Tryz.f8 Rows.sessionSwapsUptoRow.domain false) (((Rows.OpenSpec.upto Rows.sessionSwapsSpec).at F).post enc Tryz.prog Tryz.f8 false true false false) := by
  refine returnsInHanded_of_cond (C := Tryz.checked) (s := Rows.OpenSpec.upto Rows.sessionSwapsSpec) (k := Rows.uptoSmall) rfl own' started (by kernel_rfl) Tryz.func8
    (OpenSpec.witness (enc := enc) (C := Tryz.checked) (s := Rows.OpenSpec.upto Rows.sessionSwapsSpec) (k := Rows.uptoSmall) rfl false ⟨#[], #[.slice none 0 0, .agg #[.int .i64 0, .int .i64 0, .int .i64 0, .string ByteArray.empty, .string ByteArray.empty, .int .i64 0, .int .i64 0, .int .i64 0], .agg #[.int .i64 0, .int .i64 0, .int .i64 0, .string ByteArray.empty, .string ByteArray.empty, .int .i64 0, .int .i64 0, .int .i64 0]], []⟩ 8 (by kernel_rfl) (by kernel_rfl) (by kernel_rfl)
      (x := ([.nil, .agg [.lit (.int .i64 0), .lit (.int .i64 0), .lit (.int .i64 0), .lit (.string []), .lit (.string []), .lit (.int .i64 0), .lit (.int .i64 0), .lit (.int .i64 0)], .agg [.lit (.int .i64 0), .lit (.int .i64 0), .lit (.int .i64 0), .lit (.string []), .lit (.string []), .lit (.int .i64 0), .lit (.int .i64 0), .lit (.int .i64 0)]], [], [])) (by kernel_rfl) rfl (by kernel_rfl)) ?_
  intro W base args ds gs before hval hW _ hk _
  exact contract H enc W base args ds gs before hval hW hk

theorem over : Rows.sessionSwapsUptoRow.holds Tryz.pinned (Rows.OpenSpec.upto Rows.sessionSwapsSpec) :=
  OpenClaim.holds_of_cond 8 Tryz.f8 rfl rfl rfl rfl rfl rfl rfl ⟨rfl, rfl, rfl, rfl, rfl⟩ rfl rfl rfl rfl rfl (by kernel_rfl) Tryz.func8 (by kernel_rfl)
    (of_decide_eq_true (by kernel_rfl)) (by unfold Func.isWrapper; first | (rw [if_pos (by decide +kernel)]; kernel_rfl) | (rw [if_neg (by decide +kernel)]; exact ⟨rfl, rfl⟩))
    (fun os started H enc _ F => lifted os started H enc F)

theorem proved : Rows.SessionSwapsUptoSaid := over
#print axioms proved
end Go.Proofs.YthncbanajpiadaaGreat.sessionSwaps
namespace Go.Proofs.YthncbanajpiadaaGreat
theorem sessionSwaps_holds : Rows.SessionSwapsUptoSaid := sessionSwaps.proved
end Go.Proofs.YthncbanajpiadaaGreat
