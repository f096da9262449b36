/-
  Walks: the law SessionNone.
-/
import Derived.Test.YthncbanajpiadaaGreatH9
import Derived.WalkKit
import Derived.ProofKit
import Derived.OpenShut
import Derived.ShutString
import Derived.ChangeOld
import Derived.Below
import Derived.JoinedCond
import Derived.Carry
set_option linter.unusedSimpArgs false
set_option linter.unusedVariables false
namespace Go.DS
open Go Go.Proofs
set_option maxRecDepth 100000
set_option linter.unusedVariables false
set_option linter.unusedSimpArgs false
def cd6 : Cd := .seq (R [c0 3 (.new false (.s 1)), cb 4 (.tk (.c (kb false)))] [0, 3, 9, 10]) (.seq (R [cb 11 (.call none (.c (kf 10)) []), cb 5 (.tk (.s 11))] [0, 3, 5, 9, 10]) (.seq (.seq (R [cb 12 (.mv (.s 5)), cb 13 (.un .not (.s 12))] [0, 3, 5, 9, 10, 13]) (.ite (.s 13) (.seq (R [cb 4 (.tk (.c (kb false)))] [3, 4, 9, 10]) (.ret)) (.skip))) (.seq (.seq (R [c0 14 (.mv (.s 0)), cb 15 (.call none (.c (kf 11)) [(.s 14)]), cb 16 (.mv (.s 15)), cg 17 16 false (.ld true 8 (.s 3)), cg 18 16 false (.bsl 8 [(.s 17)]), ch 19 16 false (.call none (.c (kf 11)) [(.s 18)]), cb 20 (.pick (.s 16) (.c (kb true)) (.s 19)), cb 21 (.mv (.s 20)), cg 22 21 false (.mov 2 (.s 3)), cg 23 21 false (.ld false 1 (.s 22)), ch 24 21 false (.bin .neq .any (.s 23) (.c (ki .i64 0))), ch 25 21 false (.mv (.s 24)), cg 26 25 true (.ld true 8 (.s 3)), ch 27 25 true (.call none (.c (kf 12)) [(.s 26)]), ch 28 21 false (.pick (.s 25) (.s 27) (.c (kb false))), cb 29 (.pick (.s 21) (.c (kb true)) (.s 28))] [0, 3, 5, 9, 10, 29]) (.ite (.s 29) (.seq (R [cb 30 (.tk (.s 5)), cb 4 (.tk (.s 30))] [3, 4, 9, 10]) (.ret)) (.skip))) (.seq (R [c0 31 (.call none (.c (kf 13)) []), c0 6 (.tk (.s 31))] [0, 3, 5, 6, 9, 10]) (.seq (.seq (R [c0 7 (.tk (.c (ki .i64 0)))] [0, 3, 5, 6, 7, 9, 10]) (.block 0 (LP [0, 3, 5, 6, 7, 9, 10] (.seq (.seq (R [c0 32 (.mv (.s 7)), c0 33 (.mv (.s 0)), c0 34 (.len 1 (.s 33)), cb 35 (.bin .lss .any (.s 32) (.s 34))] [0, 3, 5, 6, 7, 9, 10, 35]) (.ite (.s 35) (.skip) (.exit 0))) (.seq (.block 1 (R [c0 38 (.mv (.s 6)), c0 39 (.mv (.s 0)), c0 40 (.mv (.s 7)), c0 41 (.ixp 8 (.s 39) (.s 40)), c0 42 (.ld true 8 (.s 41)), c0 43 (.bld [ki .i64 0, ks [], ki .i64 0, kz 1] []), c0 44 (.call none (.c (kf 14)) [(.s 38), (.s 42), (.s 43)])] [0, 3, 5, 6, 7, 9, 10])) (R [c0 36 (.mv (.s 7)), c0 37 (.bin .add .any (.s 36) (.c (ki .i64 1))), c0 7 (.tk (.s 37))] [0, 3, 5, 6, 7, 9, 10])))))) (.seq (R [c0 45 (.mv (.s 6)), c0 46 (.call none (.c (kf 15)) [(.s 45)]), c0 8 (.tk (.s 46))] [3, 5, 6, 8, 9, 10]) (.seq (R [c0 47 (.mv (.s 6)), c0 48 (.ld true 8 (.s 3)), c0 49 (.bld [ki .i64 0, ks [], ki .i64 0, kz 1] [(2, 1, (.c (ki .i64 7)))]), c0 50 (.call none (.c (kf 14)) [(.s 47), (.s 48), (.s 49)]), c0 9 (.new false (.c (.agg [ki .i64 0, ks [], ki .i64 0, kn 1]))), cn (.st 4 (.s 9) (.s 50))] [3, 5, 6, 8, 9, 10]) (.seq (R [c0 51 (.bld [ki .i64 0, ks [], ki .i64 0, kz 1] []), c0 10 (.new false (.c (.agg [ki .i64 0, ks [], ki .i64 0, kn 1]))), cn (.st 4 (.s 10) (.s 51))] [3, 5, 6, 8, 9, 10]) (.seq (.seq (R [c0 52 (.mov 2 (.s 3)), c0 53 (.ld false 1 (.s 52)), cb 54 (.bin .neq .any (.s 53) (.c (ki .i64 0)))] [3, 5, 6, 8, 9, 10, 54]) (.ite (.s 54) (R [c0 55 (.mov 0 (.s 10)), cn (.st 1 (.s 55) (.c (ki .i64 1)))] [3, 5, 6, 8, 9, 10]) (.skip))) (.seq (R [cb 56 (.mv (.s 5)), cb 57 (.mv (.s 56)), cg 58 57 true (.ld true 4 (.s 9)), cg 59 57 true (.ld true 4 (.s 10)), ch 60 57 true (.call none (.c (kf 16)) [(.s 58), (.s 59)]), cb 61 (.pick (.s 57) (.s 60) (.c (kb false))), cb 62 (.mv (.s 61)), cg 63 62 true (.mv (.s 6)), cg 64 62 true (.mv (.s 8)), ch 65 62 true (.call none (.c (kf 17)) [(.s 63), (.s 64)]), cb 66 (.pick (.s 62) (.s 65) (.c (kb false))), cb 4 (.tk (.s 66))] [3, 4, 9, 10]) (.ret)))))))))))
theorem fun6 : Fun Tryz.prog cfg 6 67 cd6 [.s 4] := ⟨rfl, Tryz.f6, _, Tryz.func6, rfl, rfl, by kernel_rfl, by kernel_rfl⟩
@[go_sem] theorem ok6 : calleeOK Tryz.prog 6 = true := by kernel_rfl
@[go_sem] theorem ex6 : (cfg.ext 6).isSome = false := rfl
variable {h : DHeap}
theorem none_plain (x : Mach) (c : Cmd) (ctl : Rep) (h : c.op = 0 ∨ validB c = false) : sessP x c ctl = ({ err := if c.op = 0 then 0 else 1 }, x) := by
  unfold sessP
  by_cases h0 : c.op = 0
  · simp [h0]
  · rcases h with h | h
    · exact absurd h h0
    · simp [h0, h]
set_option maxHeartbeats 4000000 in
theorem sessionNone_lim (own : Bool) (l : List Cmd) (c : Cmd) (hl : l.length ≤ 1048576) (hs : ∀ x ∈ l, x.path.length ≤ 1048576) (hc : c.path.length ≤ 1048576) :
    lim Tryz.prog cfg 6 [.list own 8 (cms l), cmdD c] h = some (vb true, h) := by
  refine lim_funp fun6 rfl (by simp) (by simp [heapFree, heapFree.all, free_cms]) rfl ?_
  delta cd6
  have w9 := works9_lim (h := [])
  have n0 := snew1
  have o1 := over_lim (h := []) false l (by omega)
  have o2 := over_lim (h := []) false [c] (by simp)
  simp only [cms, List.map_cons, List.map_nil] at o2
  have v0 := svalid_lim (h := []) c
  cases e1 : overP l with
  | true =>
    rw [e1] at o1
    simp -implicitDefEqProofs -dsimp (maxSteps := 1000000) only [go_sem, wp_RD, w9, o1, o2, v0, n0]
  | false =>
  rw [e1] at o1
  cases e2 : overP [c] with
  | true =>
    rw [e2] at o2
    simp -implicitDefEqProofs -dsimp (maxSteps := 1000000) only [go_sem, wp_RD, w9, o1, o2, v0, n0]
  | false =>
  rw [e2] at o2
  have hq : l.length ≤ 60 := Decidable.byContradiction fun h1 => by simp [overP, Nat.not_le.1 h1] at e1
  have e6 : c.op = 0 ∨ (c.op ≠ 0 ∧ validB c = false) ∨ (c.op ≠ 0 ∧ validB c = true) := by
    by_cases h1 : c.op = 0
    · exact .inl h1
    · cases h2 : validB c
      · exact .inr (.inl ⟨h1, rfl⟩)
      · exact .inr (.inr ⟨h1, rfl⟩)
  rcases e6 with e4 | ⟨e4, e5⟩ | ⟨e4, e5⟩
  rotate_left 2
  · rw [e5] at v0
    simp -implicitDefEqProofs -dsimp (maxSteps := 1000000) only [go_sem, wp_RD, w9, o1, o2, v0, n0, e4]
  have e4' := eq_true e4
  rotate_left
  have e4' := eq_false e4
  rw [e5] at v0
  all_goals
    simp -implicitDefEqProofs -dsimp (maxSteps := 1000000) only [go_sem, wp_RD, w9, o1, o2, v0, n0, e4']
    refine wp_for (σ := Nat) (fun k => [(0, .list false 8 (cms l)), (3, .box (cmdL c)), (5, vb true), (6, .ptr 3 0), (7, vi (k : Nat)), (9, .junk), (10, .junk)]) (fun k => h1S (sall (l.take k) 0)) (fun k => l.length - k) (fun k => k ≤ l.length) 0 (Nat.zero_le _) rfl rfl ?_
    rintro k hk N hN
    have Ok := sall_ok l 0 k hk
    by_cases hlt : k < l.length
    · have h1 : (k : Int) < (l.length : Int) := by omega
      have a1 := sa1 Ok (by omega) (by omega) l[k] 0 (hs _ (List.getElem_mem hlt))
      rw [← sall_snoc l 0 k hlt] at a1
      simp -implicitDefEqProofs -dsimp (maxSteps := 1000000) only [go_sem, h1, hlt, a1]
      refine hN (k + 1) _ (by omega) (by omega) ?_
      simp -implicitDefEqProofs -dsimp only [go_sem, wrap_succ (show k < 9223372036854775807 by omega)]
    · have h1 : ¬ (k : Int) < (l.length : Int) := by omega
      have hkl : k = l.length := by omega
      generalize hx : sall (l.take k) 0 = x at *
      have e6 : c.op = 0 ∨ validB c = false := by first | exact .inl e4 | exact .inr e5
      have f0 := scl1 x
      have g1 := sa21 x Ok (by omega) (by omega) c 7 hc
      rw [none_plain _ _ _ e6] at g1
      have r1 : lim Tryz.prog cfg 16 [repD { err := if c.op = 0 then 0 else 1 }, .agg [vi (if c.op = 0 then 0 else 1), vs [], vi 0, .list false 1 []]] (h2S x x) = some (vb true, h2S x x) := by
        have := same_lim (h := h2S x x) false false { err := if c.op = 0 then 0 else 1 } { err := if c.op = 0 then 0 else 1 } (Nat.zero_le _)
        rw [decide_eq_true rfl] at this
        exact this
      have r2 := ssame2 Ok Ok (by omega) (by omega) (SameM.refl x)
      simp only [e4, if_true, if_false] at g1 r1
      generalize h2S x x = H2 at *
      generalize h1S x = H1 at *
      simp -implicitDefEqProofs -dsimp (maxSteps := 1000000) only [go_sem, wp_RD, h1, f0, g1, r1, r2, e4']
end Go.DS

/-
  The row SessionNone.
-/
namespace Go.Proofs.YthncbanajpiadaaGreat.sessionNone
open Go.ChangeShapes Go.WideShapes Go.ChangeAt Go.RowKit
open Go.ChangeMaps (open_string shut_string)
open Go.DS
set_option linter.unusedVariables false
set_option linter.unusedSimpArgs false

set_option maxRecDepth 100000 in
theorem contract (H : Type) (enc : TypeId × Value → H) (W : World) (base : Nat) (args : Array Value) (ds gs : List (DataW H)) (before : List MemPlace)
    (hval0 : ∀ (j : Nat) t v, Tryz.f6.params[j]? = some t → args[j]? = some v → Value.okWide Tryz.prog W .any base t v)
    (hW : DataW.Whole enc Tryz.prog Tryz.f6.params.toList Rows.sessionNoneSpec.vars false W args.toList ds gs before) (hk : Rows.uptoSmall H (ds ++ gs) = true) :
    Calls Tryz.prog 6 args W fun e W' => ∃ v, e = .returned v ∧ Rows.sessionNoneSpec.post enc Tryz.prog Tryz.f6 false true false false W args v W' := by
  have hval : ∀ (j : Nat) t v, Tryz.f6.params[j]? = some t → args[j]? = some v → Value.okWide Tryz.prog W .any base t v := hval0
  have hW' := hW
  obtain ⟨p, q, hA0, hV, rfl, hfz, hnd⟩ := hW
  have hA : DataW.TrodAll enc Tryz.prog W 0 (fun _ => true) true Tryz.f6.params.toList args.toList ds p := hA0
  rw [Tryz.params6] at hA hval
  obtain ⟨v0, vs0, d0, ds0, p0, q0, hargs, rfl, rfl, h0, r0⟩ := trodAll_cons hA
  obtain ⟨v1, vs1, d1, ds1, p1, q1, rfl, rfl, rfl, h1, r1⟩ := trodAll_cons r0
  obtain ⟨rfl, rfl, rfl⟩ := trodAll_nil r1
  obtain rfl : args = #[v0, v1] := by cases args; simp_all
  obtain ⟨rfl, rfl⟩ := trodVars_none hV
  have lt0 : ∀ x ∈ p0, x.block < W.heap.size := by obtain ⟨m, hm⟩ := h0; exact DataW.trod_lt m _ _ _ hm
  have k0 := h0
  obtain ⟨a0, y0, b0⟩ := arg_cmds (B := 1048575) (hval 0 22 v0 rfl rfl) h0 (by have hb := of_decide_eq_true hk; simp only [Rows.uptoBulkAll, List.append_nil, List.cons_append, List.nil_append] at hb; omega)
  have lt1 : ∀ x ∈ p1, x.block < W.heap.size := by obtain ⟨m, hm⟩ := h1; exact DataW.trod_lt m _ _ _ hm
  have k1 := h1
  obtain ⟨a1, y1, b1⟩ := arg_cmd (B := 1048575) (hval 1 25 v1 rfl rfl) h1 (by have hb := of_decide_eq_true hk; simp only [Rows.uptoBulkAll, List.append_nil, List.cons_append, List.nil_append] at hb; omega)
  clear hA0 hval0
  have hb := of_decide_eq_true hk
  simp only [Rows.uptoBulkAll, Rows.uptoBulk, List.append_nil] at hb
  refine (Go.DS.start ext_ok (sessionNone_lim false a0 a1 (by have := b0.1; omega) (fun x hx => by have := (b0.2 x hx).path; omega) (by have := b1.path; omega)) W (vs := #[v0, v1]) (.cons (y0) (.cons (y1) (.nil _)))).mono fun e W' ⟨he, bel⟩ => ?_
  subst he
  exact ⟨_, rfl, _, _, _, [], _, [], hW', trodAll_mk1 (shut_bool Tryz.underlying4 _), (trodAll_cons_mk (Below.trod laidOut' (by kernel_rfl) (of_decide_eq_true (by kernel_rfl)) k0 bel lt0) (trodAll_cons_mk (Below.trod laidOut' (by kernel_rfl) (of_decide_eq_true (by kernel_rfl)) k1 bel lt1) trodAll_mk0)), rfl, bel.frame _, fun h => by cases h⟩

set_option maxRecDepth 100000 in
theorem lifted (os : Os) (started : os.Started) (H : Type) (enc : TypeId × Value → H) (F : Stop.Interp) :
    ReturnsInHanded {} Tryz.checked os 6 .any ((Rows.OpenSpec.upto Rows.sessionNoneSpec).pre6 enc Tryz.prog Tryz.f6 Rows.sessionNoneUptoRow.domain false) (((Rows.OpenSpec.upto Rows.sessionNoneSpec).at F).post enc Tryz.prog Tryz.f6 false true false false) := by
  refine returnsInHanded_of_cond (C := Tryz.checked) (s := Rows.OpenSpec.upto Rows.sessionNoneSpec) (k := Rows.uptoSmall) rfl own' started (by kernel_rfl) Tryz.func6
    (OpenSpec.witness (enc := enc) (C := Tryz.checked) (s := Rows.OpenSpec.upto Rows.sessionNoneSpec) (k := Rows.uptoSmall) rfl false ⟨#[], #[.slice none 0 0, .agg #[.int .i64 0, .int .i64 0, .int .i64 0, .string ByteArray.empty, .string ByteArray.empty, .int .i64 0, .int .i64 0, .int .i64 0]], []⟩ 8 (by kernel_rfl) (by kernel_rfl) (by kernel_rfl)
      (x := ([.nil, .agg [.lit (.int .i64 0), .lit (.int .i64 0), .lit (.int .i64 0), .lit (.string []), .lit (.string []), .lit (.int .i64 0), .lit (.int .i64 0), .lit (.int .i64 0)]], [], [])) (by kernel_rfl) rfl (by kernel_rfl)) ?_
  intro W base args ds gs before hval hW _ hk _
  exact contract H enc W base args ds gs before hval hW hk

theorem over : Rows.sessionNoneUptoRow.holds Tryz.pinned (Rows.OpenSpec.upto Rows.sessionNoneSpec) :=
  OpenClaim.holds_of_cond 6 Tryz.f6 rfl rfl rfl rfl rfl rfl rfl ⟨rfl, rfl, rfl, rfl, rfl⟩ rfl rfl rfl rfl rfl (by kernel_rfl) Tryz.func6 (by kernel_rfl)
    (of_decide_eq_true (by kernel_rfl)) (by unfold Func.isWrapper; first | (rw [if_pos (by decide +kernel)]; kernel_rfl) | (rw [if_neg (by decide +kernel)]; exact ⟨rfl, rfl⟩))
    (fun os started H enc _ F => lifted os started H enc F)

theorem proved : Rows.SessionNoneUptoSaid := over
#print axioms proved
end Go.Proofs.YthncbanajpiadaaGreat.sessionNone
namespace Go.Proofs.YthncbanajpiadaaGreat
theorem sessionNone_holds : Rows.SessionNoneUptoSaid := sessionNone.proved
end Go.Proofs.YthncbanajpiadaaGreat
