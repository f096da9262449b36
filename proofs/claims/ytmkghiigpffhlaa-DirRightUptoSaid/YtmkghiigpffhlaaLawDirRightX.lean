/-
  Walks: the law DirRight.
-/
import Derived.Test.YtmkghiigpffhlaaH9
import Derived.WalkKit
import Derived.ProofKit
import Derived.OpenShut
import Derived.ShutString
import Derived.ChangeOld
import Derived.Below
import Derived.JoinedCond
import Derived.Carry
set_option linter.unusedSimpArgs false
set_option linter.unusedVariables false
namespace Go.DS
open Go Go.Proofs
set_option maxRecDepth 100000
set_option linter.unusedVariables false
set_option linter.unusedSimpArgs false
def cd4 : Cd := .seq (R [cb 2 (.tk (.c (kb false)))] [0, 11]) (.seq (R [cb 12 (.call none (.c (kf 12)) []), cb 3 (.tk (.s 12))] [0, 3, 11]) (.seq (.seq (R [cb 13 (.mv (.s 3)), cb 14 (.un .not (.s 13))] [0, 3, 11, 14]) (.ite (.s 14) (.seq (R [cb 2 (.tk (.c (kb false)))] [2, 11]) (.ret)) (.skip))) (.seq (.seq (R [c0 15 (.mv (.s 0)), cb 16 (.call none (.c (kf 13)) [(.s 15)])] [0, 3, 11, 16]) (.ite (.s 16) (.seq (R [cb 17 (.tk (.s 3)), cb 2 (.tk (.s 17))] [2, 11]) (.ret)) (.skip))) (.seq (R [c0 18 (.call none (.c (kf 23)) []), c0 4 (.tk (.s 18))] [0, 3, 4, 11]) (.seq (.seq (R [c0 5 (.tk (.c (ki .i64 0)))] [0, 3, 4, 5, 11]) (.block 0 (LP [0, 3, 4, 5, 11] (.seq (.seq (R [c0 19 (.mv (.s 5)), c0 20 (.mv (.s 0)), c0 21 (.len 1 (.s 20)), cb 22 (.bin .lss .any (.s 19) (.s 21))] [0, 3, 4, 5, 11, 22]) (.ite (.s 22) (.skip) (.exit 0))) (.seq (.block 1 (R [c0 25 (.mv (.s 4)), c0 26 (.mv (.s 0)), c0 27 (.mv (.s 5)), c0 28 (.ixp 8 (.s 26) (.s 27)), c0 29 (.ld true 8 (.s 28)), c0 30 (.call none (.c (kf 17)) [(.s 25), (.s 29)])] [0, 3, 4, 5, 11])) (R [c0 23 (.mv (.s 5)), c0 24 (.bin .add .any (.s 23) (.c (ki .i64 1))), c0 5 (.tk (.s 24))] [0, 3, 4, 5, 11])))))) (.seq (R [c0 31 (.mv (.s 4)), c0 32 (.call none (.c (kf 22)) [(.s 31)]), c0 6 (.tk (.s 32))] [3, 4, 6, 11]) (.seq (R [c0 34 (.mv (.s 6)), c0 35 (.call none (.c (kf 15)) [(.s 34)]), c0 33 (.tk (.s 35)), c0 36 (.exh (.s 33)), c0 37 (.ext (.s 33) 1), c0 7 (.tk (.s 36)), c0 8 (.tk (.s 37))] [3, 4, 6, 7, 8, 11]) (.seq (.seq (R [c0 38 (.mv (.s 8)), cb 39 (.bin .neq .any (.s 38) (.c (ki .i64 0))), cb 40 (.mv (.s 39)), cg 41 40 false (.mv (.s 7)), ch 42 40 false (.bin .eql .ptr (.s 41) (.c (.sc (.pointer none)))), cb 43 (.pick (.s 40) (.c (kb true)) (.s 42)), cb 44 (.mv (.s 43)), cg 45 44 false (.mv (.s 7)), cg 46 44 false (.call none (.c (kf 22)) [(.s 45)]), cg 47 44 false (.mv (.s 6)), ch 48 44 false (.call none (.c (kf 21)) [(.s 46), (.s 47)]), ch 49 44 false (.un .not (.s 48)), cb 50 (.pick (.s 44) (.c (kb true)) (.s 49)), cb 51 (.mv (.s 50)), cg 52 51 false (.mv (.s 6)), cg 53 51 false (.len 1 (.s 52)), cg 54 51 false (.mv (.s 4)), cg 55 51 false (.call none (.c (kf 20)) [(.s 54)]), ch 56 51 false (.bin .neq .any (.s 53) (.s 55)), cb 57 (.pick (.s 51) (.c (kb true)) (.s 56))] [3, 4, 6, 11, 57]) (.ite (.s 57) (.seq (R [cb 2 (.tk (.c (kb false)))] [2, 11]) (.ret)) (.skip))) (.seq (.seq (R [c0 9 (.tk (.c (ki .i64 0)))] [3, 4, 6, 9, 11]) (.block 2 (LP [3, 4, 6, 9, 11] (.seq (.seq (R [c0 58 (.mv (.s 9)), c0 59 (.mv (.s 6)), c0 60 (.len 1 (.s 59)), cb 61 (.bin .lss .any (.s 58) (.s 60))] [3, 4, 6, 9, 11, 61]) (.ite (.s 61) (.skip) (.exit 2))) (.seq (.block 3 (.seq (R [c0 64 (.mv (.s 6)), c0 65 (.mv (.s 9)), c0 66 (.ixp 3 (.s 64) (.s 65)), c0 67 (.mov 0 (.s 66)), c0 68 (.ld false 1 (.s 67)), c0 69 (.call none (.c (kf 24)) [(.s 68)]), c0 10 (.tk (.s 69))] [3, 4, 6, 9, 10, 11]) (.seq (R [c0 70 (.mv (.s 4)), c0 71 (.mv (.s 10)), c0 72 (.bld [ki .i64 0, ki .i64 0, ki .i64 0, ks [], ks [], ki .i64 0, ki .i64 0, ki .i64 0] [(2, 1, (.c (ki .i64 4))), (3, 1, (.s 71))]), c0 73 (.call none (.c (kf 17)) [(.s 70), (.s 72)]), c0 11 (.new false (.c (.agg [ki .i64 0, ks [], ki .i64 0, kn 1]))), cn (.st 4 (.s 11) (.s 73))] [3, 4, 6, 9, 10, 11]) (.seq (R [c0 74 (.mv (.s 10)), cb 75 (.bin .eql .any (.s 74) (.c (ks []))), cb 76 (.mv (.s 75)), cg 77 76 false (.mov 0 (.s 11)), cg 78 76 false (.ld false 1 (.s 77)), ch 79 76 false (.bin .neq .any (.s 78) (.c (ki .i64 0))), cb 80 (.pick (.s 76) (.c (kb true)) (.s 79)), cb 81 (.mv (.s 80)), cg 82 81 false (.mv (.s 6)), cg 83 81 false (.mv (.s 9)), cg 84 81 false (.ixp 3 (.s 82) (.s 83)), cg 85 81 false (.mov 2 (.s 84)), cg 86 81 false (.ld false 1 (.s 85)), ch 87 81 false (.bin .lss .any (.s 86) (.c (ki .i64 1))), cb 88 (.pick (.s 81) (.c (kb true)) (.s 87))] [3, 4, 6, 9, 11, 88]) (.ite (.s 88) (.seq (R [cb 2 (.tk (.c (kb false)))] [2, 11]) (.ret)) (.skip)))))) (R [c0 62 (.mv (.s 9)), c0 63 (.bin .add .any (.s 62) (.c (ki .i64 1))), c0 9 (.tk (.s 63))] [3, 4, 6, 9, 11])))))) (.seq (R [cb 89 (.tk (.s 3)), cb 2 (.tk (.s 89))] [2, 11]) (.ret)))))))))))
theorem fun4 : Fun Try.prog cfg 4 90 cd4 [.s 2] := ⟨rfl, Try.f4, _, Try.func4, rfl, rfl, by kernel_rfl, by kernel_rfl⟩
@[go_sem] theorem ok4 : calleeOK Try.prog 4 = true := by kernel_rfl
@[go_sem] theorem ex4 : (cfg.ext 4).isSome = false := rfl
variable {h : DHeap}
set_option maxHeartbeats 2000000 in
theorem dirRight_lim (own : Bool) (l : List Cmd) (hl : l.length ≤ 1048576) (hs : ∀ x ∈ l, x.path.length ≤ 1048576) :
    lim Try.prog cfg 4 [.list own 8 (cms l)] h = some (vb true, h) := by
  refine lim_funp fun4 rfl (by simp) (by simp [heapFree, heapFree.all, free_cms]) rfl ?_
  delta cd4
  have w7 := works7_lim (h := [])
  have o1 := over_lim (h := []) false l (by omega)
  have n0 := new0
  cases e1 : overP l with
  | true =>
    rw [e1] at o1
    simp -implicitDefEqProofs -dsimp only [go_sem, wp_RD, w7, o1, n0]
  | false =>
  rw [e1] at o1
  simp -implicitDefEqProofs -dsimp only [go_sem, wp_RD, w7, o1, n0]
  have O := fun k => doAll_ok (dirOK_nil 0 0) (l.take k)
  have hq : l.length ≤ 60 := Decidable.byContradiction fun h1 => by simp [overP, Nat.not_le.1 h1] at e1
  refine wp_for (σ := Nat) (fun k => [(0, .list false 8 (cms l)), (3, vb true), (4, .ptr 1 0), (5, vi (k : Nat)), (11, .junk)]) (fun k => hD (doAll [] (l.take k))) (fun k => l.length - k) (fun k => k ≤ l.length) 0 (Nat.zero_le _) rfl rfl ?_
  rintro k hk N hN
  have Ok := O k
  have hln : (l.take k).length = k := by rw [List.length_take]; omega
  rw [hln] at Ok
  by_cases hlt : k < l.length
  · have h1 : (k : Int) < (l.length : Int) := by omega
    have a1 := applyD Ok (by omega) (by omega) l[k] (by have := hs _ (List.getElem_mem hlt); omega)
    have hd : doAll [] (l.take (k + 1)) = (applyP (doAll [] (l.take k)) l[k]).2 := by rw [List.take_succ_eq_append_getElem hlt, doAll_snoc]
    simp -implicitDefEqProofs -dsimp only [go_sem, h1, hlt, a1]
    rw [← hd]
    refine hN (k + 1) _ (by omega) (by omega) ?_
    simp -implicitDefEqProofs -dsimp only [go_sem, wrap_succ (show k < 9223372036854775807 by omega)]
  · have h1 : ¬ (k : Int) < (l.length : Int) := by omega
    generalize hes : doAll [] (l.take k) = es at *
    have hle := Ok.len
    have f1 := entries_lim (atD es) Ok (hbD es) (by omega)
    have hE := entries_ok Ok
    have hleE := hE.len
    have f2 : lim Try.prog cfg 15 [.list false 3 (eds (entriesP es))] (hD es) = some (.tup [.ptr 3 0, vi 0], hD2 es (entriesP es)) := by
      have := dof_lim (h := hD es) false (entriesP es) (by omega) (fun e he => by obtain ⟨_, _, _, h, _⟩ := ents_path Ok he; omega)
      rw [dirOf_entries Ok] at this
      exact this
    have f3 := entries_lim (atD2' es (entriesP es)) hE (hbD2 _ _) (by omega)
    rw [entries_entries Ok] at f3
    have f4 := len_lim (atD2 es (entriesP es))
    have rr := row_lim (h := hD2 es (entriesP es)) false false (entriesP es) (entriesP es) (by omega)
    rw [decide_eq_true rfl] at rr
    have g1 : ∀ p : Str, p.length ≤ 137 → lim Try.prog cfg 17 [.ptr 1 0, .agg [vi 0, vi 0, vi 4, vs p, vs [], vi 0, vi 0, vi 0]] (hD2 es (entriesP es)) = some (repD (getR es p), hD2 es (entriesP es)) := fun p hp => by
      have := applyD2 (entriesP es) Ok (by omega) (by omega) (getC p) (show p.length ≤ 1099511627776 by omega)
      rw [apply_get] at this
      exact this
    have hp := fun e he => ents_path (e := e) Ok he
    have lenE := entries_len es
    generalize hD2 es (entriesP es) = H2 at *
    generalize hD es = H1 at *
    generalize hEE : entriesP es = E at *
    simp -implicitDefEqProofs -dsimp only [go_sem, wp_RD, h1, f1, f2, f3, f4, rr, lenE]
    refine wp_for (σ := Nat × DV) (fun s => [(3, vb true), (4, .ptr 1 0), (6, .list true 3 (eds E)), (9, vi (s.1 : Nat)), (11, s.2)]) (fun _ => H2) (fun s => E.length - s.1) (fun s => s.1 ≤ E.length ∧ (s.2 = .junk ∨ ∃ cs, s.2 = .box cs)) (0, .junk) ⟨Nat.zero_le _, .inl rfl⟩ rfl rfl ?_
    rintro ⟨j, z⟩ ⟨hj, hz⟩ N hN
    simp only at hj hz hN ⊢
    by_cases hlt : j < E.length
    · have h2 : (j : Int) < (E.length : Int) := by omega
      obtain ⟨lp, p1, p2, p3, p4, p5, p6, p7⟩ := hp _ (List.getElem_mem hlt)
      have t2 := parent_lim (h := H2) E[j].1 (by omega)
      have g2 := g1 _ p7
      have p4' : ¬ E[j].2.2 < 1 := by omega
      rcases hz with rfl | ⟨cs, rfl⟩ <;> simp -implicitDefEqProofs -dsimp (maxSteps := 800000) only [go_sem, wp_RD, h2, hlt, t2, g2, p4', p5, p6, eds_get, nat_nn]
      all_goals
        refine hN (j + 1, .box [vi 0, vs (getR es (parentP E[j].1)).value, vi (getR es (parentP E[j].1)).version, .list false 1 (ts (getR es (parentP E[j].1)).names)]) _ (by simp only; omega) ⟨by simp only; omega, .inr ⟨_, rfl⟩⟩ ?_
        simp -implicitDefEqProofs -dsimp only [go_sem, wrap_succ (show j < 9223372036854775807 by omega)]
    · have h2 : ¬ (j : Int) < (E.length : Int) := by omega
      rcases hz with rfl | ⟨cs, rfl⟩ <;> simp -implicitDefEqProofs -dsimp only [go_sem, h2]
end Go.DS

/-
  The row DirRight.
-/
namespace Go.Proofs.Ytmkghiigpffhlaa.dirRight
open Go.ChangeShapes Go.WideShapes Go.ChangeAt Go.RowKit
open Go.ChangeMaps (open_string shut_string)
open Go.DS
set_option linter.unusedVariables false
set_option linter.unusedSimpArgs false

set_option maxRecDepth 100000 in
theorem contract (H : Type) (enc : TypeId × Value → H) (W : World) (base : Nat) (args : Array Value) (ds gs : List (DataW H)) (before : List MemPlace)
    (hval0 : ∀ (j : Nat) t v, Try.f4.params[j]? = some t → args[j]? = some v → Value.okWide Try.prog W .any base t v)
    (hW : DataW.Whole enc Try.prog Try.f4.params.toList Rows.dirRightSpec.vars false W args.toList ds gs before) (hk : Rows.uptoSmall H (ds ++ gs) = true) :
    Calls Try.prog 4 args W fun e W' => ∃ v, e = .returned v ∧ Rows.dirRightSpec.post enc Try.prog Try.f4 false true false false W args v W' := by
  have hval : ∀ (j : Nat) t v, Try.f4.params[j]? = some t → args[j]? = some v → Value.okWide Try.prog W .any base t v := hval0
  have hW' := hW
  obtain ⟨p, q, hA0, hV, rfl, hfz, hnd⟩ := hW
  have hA : DataW.TrodAll enc Try.prog W 0 (fun _ => true) true Try.f4.params.toList args.toList ds p := hA0
  rw [Try.params4] at hA hval
  obtain ⟨v0, vs0, d0, ds0, p0, q0, hargs, rfl, rfl, h0, r0⟩ := trodAll_cons hA
  obtain ⟨rfl, rfl, rfl⟩ := trodAll_nil r0
  obtain rfl : args = #[v0] := by cases args; simp_all
  obtain ⟨rfl, rfl⟩ := trodVars_none hV
  have lt0 : ∀ x ∈ p0, x.block < W.heap.size := by obtain ⟨m, hm⟩ := h0; exact DataW.trod_lt m _ _ _ hm
  have k0 := h0
  obtain ⟨a0, y0, b0⟩ := arg_cmds (B := 1048575) (hval 0 23 v0 rfl rfl) h0 (by have hb := of_decide_eq_true hk; simp only [Rows.uptoBulkAll, List.append_nil, List.cons_append, List.nil_append] at hb; omega)
  clear hA0 hval0
  have hb := of_decide_eq_true hk
  simp only [Rows.uptoBulkAll, Rows.uptoBulk, List.append_nil] at hb
  refine (Go.DS.start ext_ok (dirRight_lim false a0 (by have := b0.1; omega) (fun x hx => by have := (b0.2 x hx).path; omega)) W (vs := #[v0]) (.cons (y0) (.nil _))).mono fun e W' ⟨he, bel⟩ => ?_
  subst he
  exact ⟨_, rfl, _, _, _, [], _, [], hW', trodAll_mk1 (shut_bool Try.underlying4 _), (trodAll_cons_mk (Below.trod laidOut' (by kernel_rfl) (of_decide_eq_true (by kernel_rfl)) k0 bel lt0) trodAll_mk0), rfl, bel.frame _, fun h => by cases h⟩

set_option maxRecDepth 100000 in
theorem lifted (os : Os) (started : os.Started) (H : Type) (enc : TypeId × Value → H) (F : Stop.Interp) :
    ReturnsInHanded {} Try.checked os 4 .any ((Rows.OpenSpec.upto Rows.dirRightSpec).pre6 enc Try.prog Try.f4 Rows.dirRightUptoRow.domain false) (((Rows.OpenSpec.upto Rows.dirRightSpec).at F).post enc Try.prog Try.f4 false true false false) := by
  refine returnsInHanded_of_cond (C := Try.checked) (s := Rows.OpenSpec.upto Rows.dirRightSpec) (k := Rows.uptoSmall) rfl own' started (by kernel_rfl) Try.func4
    (OpenSpec.witness (enc := enc) (C := Try.checked) (s := Rows.OpenSpec.upto Rows.dirRightSpec) (k := Rows.uptoSmall) rfl false ⟨#[], #[.slice none 0 0], []⟩ 8 (by kernel_rfl) (by kernel_rfl) (by kernel_rfl)
      (x := ([.nil], [], [])) (by kernel_rfl) rfl (by kernel_rfl)) ?_
  intro W base args ds gs before hval hW _ hk _
  exact contract H enc W base args ds gs before hval hW hk

theorem over : Rows.dirRightUptoRow.holds Try.pinned (Rows.OpenSpec.upto Rows.dirRightSpec) :=
  OpenClaim.holds_of_cond 4 Try.f4 rfl rfl rfl rfl rfl rfl rfl ⟨rfl, rfl, rfl, rfl, rfl⟩ rfl rfl rfl rfl rfl (by kernel_rfl) Try.func4 (by kernel_rfl)
    (of_decide_eq_true (by kernel_rfl)) (by unfold Func.isWrapper; first | (rw [if_pos (by decide +kernel)]; kernel_rfl) | (rw [if_neg (by decide +kernel)]; exact ⟨rfl, rfl⟩))
    (fun os started H enc _ F => lifted os started H enc F)

theorem proved : Rows.DirRightUptoSaid := over
#print axioms proved
end Go.Proofs.Ytmkghiigpffhlaa.dirRight
namespace Go.Proofs.Ytmkghiigpffhlaa
theorem dirRight_holds : Rows.DirRightUptoSaid := dirRight.proved
end Go.Proofs.Ytmkghiigpffhlaa
