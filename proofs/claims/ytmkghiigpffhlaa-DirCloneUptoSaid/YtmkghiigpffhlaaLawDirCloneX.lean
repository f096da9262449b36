/-
  Walks: the law DirClone.
-/
import Derived.Test.YtmkghiigpffhlaaH9
import Derived.WalkKit
import Derived.ProofKit
import Derived.OpenShut
import Derived.ShutString
import Derived.ChangeOld
import Derived.Below
import Derived.JoinedCond
import Derived.Carry
set_option linter.unusedSimpArgs false
set_option linter.unusedVariables false
namespace Go.DS
open Go Go.Proofs
set_option maxRecDepth 100000
set_option linter.unusedVariables false
set_option linter.unusedSimpArgs false
def cd7 : Cd := .seq (R [cb 4 (.tk (.c (kb false)))] [0, 1]) (.seq (R [cb 12 (.call none (.c (kf 12)) []), cb 5 (.tk (.s 12))] [0, 1, 5]) (.seq (.seq (R [cb 13 (.mv (.s 5)), cb 14 (.un .not (.s 13))] [0, 1, 5, 14]) (.ite (.s 14) (.seq (R [cb 4 (.tk (.c (kb false)))] [4]) (.ret)) (.skip))) (.seq (.seq (R [c0 15 (.mv (.s 0)), cb 16 (.call none (.c (kf 13)) [(.s 15)]), cb 17 (.mv (.s 16)), cg 18 17 false (.mv (.s 1)), ch 19 17 false (.call none (.c (kf 13)) [(.s 18)]), cb 20 (.pick (.s 17) (.c (kb true)) (.s 19))] [0, 1, 5, 20]) (.ite (.s 20) (.seq (R [cb 21 (.tk (.s 5)), cb 4 (.tk (.s 21))] [4]) (.ret)) (.skip))) (.seq (R [c0 22 (.call none (.c (kf 23)) []), c0 6 (.tk (.s 22))] [0, 1, 5, 6]) (.seq (.seq (R [c0 7 (.tk (.c (ki .i64 0)))] [0, 1, 5, 6, 7]) (.block 0 (LP [0, 1, 5, 6, 7] (.seq (.seq (R [c0 23 (.mv (.s 7)), c0 24 (.mv (.s 0)), c0 25 (.len 1 (.s 24)), cb 26 (.bin .lss .any (.s 23) (.s 25))] [0, 1, 5, 6, 7, 26]) (.ite (.s 26) (.skip) (.exit 0))) (.seq (.block 1 (R [c0 29 (.mv (.s 6)), c0 30 (.mv (.s 0)), c0 31 (.mv (.s 7)), c0 32 (.ixp 8 (.s 30) (.s 31)), c0 33 (.ld true 8 (.s 32)), c0 34 (.call none (.c (kf 17)) [(.s 29), (.s 33)])] [0, 1, 5, 6, 7])) (R [c0 27 (.mv (.s 7)), c0 28 (.bin .add .any (.s 27) (.c (ki .i64 1))), c0 7 (.tk (.s 28))] [0, 1, 5, 6, 7])))))) (.seq (R [c0 35 (.mv (.s 6)), c0 36 (.call none (.c (kf 25)) [(.s 35)]), c0 8 (.tk (.s 36))] [1, 5, 6, 8]) (.seq (.seq (R [c0 37 (.mv (.s 8)), cb 38 (.bin .eql .ptr (.s 37) (.c (.sc (.pointer none)))), cb 39 (.mv (.s 38)), cg 40 39 false (.mv (.s 8)), cg 41 39 false (.call none (.c (kf 22)) [(.s 40)]), cg 42 39 false (.mv (.s 6)), cg 43 39 false (.call none (.c (kf 22)) [(.s 42)]), ch 44 39 false (.call none (.c (kf 21)) [(.s 41), (.s 43)]), ch 45 39 false (.un .not (.s 44)), cb 46 (.pick (.s 39) (.c (kb true)) (.s 45))] [1, 5, 6, 8, 46]) (.ite (.s 46) (.seq (R [cb 4 (.tk (.c (kb false)))] [4]) (.ret)) (.skip))) (.seq (R [c0 47 (.mv (.s 6)), c0 48 (.call none (.c (kf 22)) [(.s 47)]), c0 9 (.tk (.s 48))] [1, 5, 6, 8, 9]) (.seq (.seq (R [c0 10 (.tk (.c (ki .i64 0)))] [1, 5, 6, 8, 9, 10]) (.block 2 (LP [1, 5, 6, 8, 9, 10] (.seq (.seq (R [c0 49 (.mv (.s 10)), c0 50 (.mv (.s 1)), c0 51 (.len 1 (.s 50)), cb 52 (.bin .lss .any (.s 49) (.s 51))] [1, 5, 6, 8, 9, 10, 52]) (.ite (.s 52) (.skip) (.exit 2))) (.seq (.block 3 (R [c0 55 (.mv (.s 8)), c0 56 (.mv (.s 1)), c0 57 (.mv (.s 10)), c0 58 (.ixp 8 (.s 56) (.s 57)), c0 59 (.ld true 8 (.s 58)), c0 60 (.call none (.c (kf 17)) [(.s 55), (.s 59)])] [1, 5, 6, 8, 9, 10])) (R [c0 53 (.mv (.s 10)), c0 54 (.bin .add .any (.s 53) (.c (ki .i64 1))), c0 10 (.tk (.s 54))] [1, 5, 6, 8, 9, 10])))))) (.seq (.seq (R [c0 61 (.mv (.s 9)), c0 62 (.mv (.s 6)), c0 63 (.call none (.c (kf 22)) [(.s 62)]), cb 64 (.call none (.c (kf 21)) [(.s 61), (.s 63)]), cb 65 (.un .not (.s 64))] [1, 5, 6, 8, 65]) (.ite (.s 65) (.seq (R [cb 4 (.tk (.c (kb false)))] [4]) (.ret)) (.skip))) (.seq (.seq (R [c0 11 (.tk (.c (ki .i64 0)))] [1, 5, 6, 8, 11]) (.block 4 (LP [1, 5, 6, 8, 11] (.seq (.seq (R [c0 66 (.mv (.s 11)), c0 67 (.mv (.s 1)), c0 68 (.len 1 (.s 67)), cb 69 (.bin .lss .any (.s 66) (.s 68))] [1, 5, 6, 8, 11, 69]) (.ite (.s 69) (.skip) (.exit 4))) (.seq (.block 5 (R [c0 72 (.mv (.s 6)), c0 73 (.mv (.s 1)), c0 74 (.mv (.s 11)), c0 75 (.ixp 8 (.s 73) (.s 74)), c0 76 (.ld true 8 (.s 75)), c0 77 (.call none (.c (kf 17)) [(.s 72), (.s 76)])] [1, 5, 6, 8, 11])) (R [c0 70 (.mv (.s 11)), c0 71 (.bin .add .any (.s 70) (.c (ki .i64 1))), c0 11 (.tk (.s 71))] [1, 5, 6, 8, 11])))))) (.seq (R [cb 78 (.mv (.s 5)), cb 79 (.mv (.s 78)), cg 80 79 true (.mv (.s 8)), cg 81 79 true (.call none (.c (kf 22)) [(.s 80)]), cg 82 79 true (.mv (.s 6)), cg 83 79 true (.call none (.c (kf 22)) [(.s 82)]), ch 84 79 true (.call none (.c (kf 21)) [(.s 81), (.s 83)]), cb 85 (.pick (.s 79) (.s 84) (.c (kb false))), cb 4 (.tk (.s 85))] [4]) (.ret)))))))))))))
theorem fun7 : Fun Try.prog cfg 7 86 cd7 [.s 4] := ⟨rfl, Try.f7, _, Try.func7, rfl, rfl, by kernel_rfl, by kernel_rfl⟩
@[go_sem] theorem ok7 : calleeOK Try.prog 7 = true := by kernel_rfl
@[go_sem] theorem ex7 : (cfg.ext 7).isSome = false := rfl
variable {h : DHeap}
set_option maxHeartbeats 2000000 in
theorem dirClone_lim (own own' : Bool) (l m : List Cmd) (hl : l.length ≤ 1048576) (hs : ∀ x ∈ l, x.path.length ≤ 1048576) (hm : m.length ≤ 1048576) (ht : ∀ x ∈ m, x.path.length ≤ 1048576) :
    lim Try.prog cfg 7 [.list own 8 (cms l), .list own' 8 (cms m)] h = some (vb true, h) := by
  refine lim_funp fun7 rfl (by simp) (by simp [heapFree, heapFree.all, free_cms]) rfl ?_
  delta cd7
  have w7 := works7_lim (h := [])
  have o1 := over_lim (h := []) false l (by omega)
  have o2 := over_lim (h := []) false m (by omega)
  have n0 := new0
  cases e1 : overP l with
  | true =>
    rw [e1] at o1
    simp -implicitDefEqProofs -dsimp only [go_sem, wp_RD, w7, o1, o2, n0]
  | false =>
  rw [e1] at o1
  cases e2 : overP m with
  | true =>
    rw [e2] at o2
    simp -implicitDefEqProofs -dsimp only [go_sem, wp_RD, w7, o1, o2, n0]
  | false =>
  rw [e2] at o2
  simp -implicitDefEqProofs -dsimp only [go_sem, wp_RD, w7, o1, o2, n0]
  have hqm : m.length ≤ 60 := Decidable.byContradiction fun h1 => by simp [overP, Nat.not_le.1 h1] at e2
  have O := fun k => doAll_ok (dirOK_nil 0 0) (l.take k)
  have hq : l.length ≤ 60 := Decidable.byContradiction fun h1 => by simp [overP, Nat.not_le.1 h1] at e1
  refine wp_for (σ := Nat) (fun k => [(0, .list false 8 (cms l)), (1, .list false 8 (cms m)), (5, vb true), (6, .ptr 1 0), (7, vi (k : Nat))]) (fun k => hD (doAll [] (l.take k))) (fun k => l.length - k) (fun k => k ≤ l.length) 0 (Nat.zero_le _) rfl rfl ?_
  rintro k hk N hN
  have Ok := O k
  have hln : (l.take k).length = k := by rw [List.length_take]; omega
  rw [hln] at Ok
  by_cases hlt : k < l.length
  · have h1 : (k : Int) < (l.length : Int) := by omega
    have a1 := applyD Ok (by omega) (by omega) l[k] (by have := hs _ (List.getElem_mem hlt); omega)
    have hd : doAll [] (l.take (k + 1)) = (applyP (doAll [] (l.take k)) l[k]).2 := by rw [List.take_succ_eq_append_getElem hlt, doAll_snoc]
    simp -implicitDefEqProofs -dsimp only [go_sem, h1, hlt, a1]
    rw [← hd]
    refine hN (k + 1) _ (by omega) (by omega) ?_
    simp -implicitDefEqProofs -dsimp only [go_sem, wrap_succ (show k < 9223372036854775807 by omega)]
  · have h1 : ¬ (k : Int) < (l.length : Int) := by omega
    generalize hes : doAll [] (l.take k) = es at *
    have hle := Ok.len
    have f0 : lim Try.prog cfg 25 [.ptr 1 0] (hD es) = some (.ptr 3 0, hD2 es es) := dclone_lim (atD es)
    have f1 := entries_lim (atD2' es es) Ok (hbD2 es es) (by omega)
    have f2 := entries_lim (atD2 es es) Ok (hbD2 es es) (by omega)
    have lenE := entries_len es
    have rr := row_lim (h := hD2 es es) false false (entriesP es) (entriesP es) (by omega)
    rw [decide_eq_true rfl] at rr
    have M := fun k => doAll_ok Ok (m.take k)
    generalize hD es = H1 at *
    simp -implicitDefEqProofs -dsimp only [go_sem, wp_RD, h1, f0, f1, f2, rr]
    refine wp_for (σ := Nat) (fun k => [(1, .list false 8 (cms m)), (5, vb true), (6, .ptr 1 0), (8, .ptr 3 0), (9, .list true 3 (eds (entriesP es))), (10, vi (k : Nat))]) (fun k => hD2 es (doAll es (m.take k))) (fun k => m.length - k) (fun k => k ≤ m.length) 0 (Nat.zero_le _) rfl rfl ?_
    rintro j hj N2 hN2
    have Mj := M j
    have hlm : (m.take j).length = j := by rw [List.length_take]; omega
    rw [hlm] at Mj
    by_cases hlt2 : j < m.length
    · have h2 : (j : Int) < (m.length : Int) := by omega
      have a1 := applyD2' es Mj (by omega) (by omega) m[j] (by have := ht _ (List.getElem_mem hlt2); omega)
      have hd : doAll es (m.take (j + 1)) = (applyP (doAll es (m.take j)) m[j]).2 := by rw [List.take_succ_eq_append_getElem hlt2, doAll_snoc]
      simp -implicitDefEqProofs -dsimp only [go_sem, h2, hlt2, a1]
      rw [← hd]
      refine hN2 (j + 1) _ (by omega) (by omega) ?_
      simp -implicitDefEqProofs -dsimp only [go_sem, wrap_succ (show j < 9223372036854775807 by omega)]
    · have h2 : ¬ (j : Int) < (m.length : Int) := by omega
      have hjm : j = m.length := by omega
      subst hjm
      rw [List.take_length] at *
      generalize hes2 : doAll es m = es2 at *
      have f3 := entries_lim (atD2 es es2) Ok (hbD2 es es2) (by omega)
      have rr2 := row_lim (h := hD2 es es2) false false (entriesP es) (entriesP es) (by omega)
      rw [decide_eq_true rfl] at rr2
      simp -implicitDefEqProofs -dsimp only [go_sem, wp_RD, h2, f3, rr2]
      refine wp_for (σ := Nat) (fun k => [(1, .list false 8 (cms m)), (5, vb true), (6, .ptr 1 0), (8, .ptr 3 0), (11, vi (k : Nat))]) (fun k => hD2 (doAll es (m.take k)) es2) (fun k => m.length - k) (fun k => k ≤ m.length) 0 (Nat.zero_le _) rfl rfl ?_
      rintro i hi N3 hN3
      have Mi := M i
      have hli : (m.take i).length = i := by rw [List.length_take]; omega
      rw [hli] at Mi
      by_cases hlt3 : i < m.length
      · have h3 : (i : Int) < (m.length : Int) := by omega
        have a1 := applyD2 es2 Mi (by omega) (by omega) m[i] (by have := ht _ (List.getElem_mem hlt3); omega)
        have hd : doAll es (m.take (i + 1)) = (applyP (doAll es (m.take i)) m[i]).2 := by rw [List.take_succ_eq_append_getElem hlt3, doAll_snoc]
        simp -implicitDefEqProofs -dsimp only [go_sem, h3, hlt3, a1]
        rw [← hd]
        refine hN3 (i + 1) _ (by omega) (by omega) ?_
        simp -implicitDefEqProofs -dsimp only [go_sem, wrap_succ (show i < 9223372036854775807 by omega)]
      · have h3 : ¬ (i : Int) < (m.length : Int) := by omega
        have him : i = m.length := by omega
        subst him
        rw [List.take_length] at *
        rw [hes2] at *
        have f4 := entries_lim (atD2 es2 es2) Mi (hbD2 es2 es2) (by omega)
        have f5 := entries_lim (atD2' es2 es2) Mi (hbD2 es2 es2) (by omega)
        have len2 := entries_len es2
        have := Mi.len
        have rr3 := row_lim (h := hD2 es2 es2) false false (entriesP es2) (entriesP es2) (by omega)
        rw [decide_eq_true rfl] at rr3
        simp -implicitDefEqProofs -dsimp only [go_sem, wp_RD, h3, f4, f5, rr3]
end Go.DS

/-
  The row DirClone.
-/
namespace Go.Proofs.Ytmkghiigpffhlaa.dirClone
open Go.ChangeShapes Go.WideShapes Go.ChangeAt Go.RowKit
open Go.ChangeMaps (open_string shut_string)
open Go.DS
set_option linter.unusedVariables false
set_option linter.unusedSimpArgs false

set_option maxRecDepth 100000 in
theorem contract (H : Type) (enc : TypeId × Value → H) (W : World) (base : Nat) (args : Array Value) (ds gs : List (DataW H)) (before : List MemPlace)
    (hval0 : ∀ (j : Nat) t v, Try.f7.params[j]? = some t → args[j]? = some v → Value.okWide Try.prog W .any base t v)
    (hW : DataW.Whole enc Try.prog Try.f7.params.toList Rows.dirCloneSpec.vars false W args.toList ds gs before) (hk : Rows.uptoSmall H (ds ++ gs) = true) :
    Calls Try.prog 7 args W fun e W' => ∃ v, e = .returned v ∧ Rows.dirCloneSpec.post enc Try.prog Try.f7 false true false false W args v W' := by
  have hval : ∀ (j : Nat) t v, Try.f7.params[j]? = some t → args[j]? = some v → Value.okWide Try.prog W .any base t v := hval0
  have hW' := hW
  obtain ⟨p, q, hA0, hV, rfl, hfz, hnd⟩ := hW
  have hA : DataW.TrodAll enc Try.prog W 0 (fun _ => true) true Try.f7.params.toList args.toList ds p := hA0
  rw [Try.params7] at hA hval
  obtain ⟨v0, vs0, d0, ds0, p0, q0, hargs, rfl, rfl, h0, r0⟩ := trodAll_cons hA
  obtain ⟨v1, vs1, d1, ds1, p1, q1, rfl, rfl, rfl, h1, r1⟩ := trodAll_cons r0
  obtain ⟨rfl, rfl, rfl⟩ := trodAll_nil r1
  obtain rfl : args = #[v0, v1] := by cases args; simp_all
  obtain ⟨rfl, rfl⟩ := trodVars_none hV
  have lt0 : ∀ x ∈ p0, x.block < W.heap.size := by obtain ⟨m, hm⟩ := h0; exact DataW.trod_lt m _ _ _ hm
  have k0 := h0
  obtain ⟨a0, y0, b0⟩ := arg_cmds (B := 1048575) (hval 0 23 v0 rfl rfl) h0 (by have hb := of_decide_eq_true hk; simp only [Rows.uptoBulkAll, List.append_nil, List.cons_append, List.nil_append] at hb; omega)
  have lt1 : ∀ x ∈ p1, x.block < W.heap.size := by obtain ⟨m, hm⟩ := h1; exact DataW.trod_lt m _ _ _ hm
  have k1 := h1
  obtain ⟨a1, y1, b1⟩ := arg_cmds (B := 1048575) (hval 1 23 v1 rfl rfl) h1 (by have hb := of_decide_eq_true hk; simp only [Rows.uptoBulkAll, List.append_nil, List.cons_append, List.nil_append] at hb; omega)
  clear hA0 hval0
  have hb := of_decide_eq_true hk
  simp only [Rows.uptoBulkAll, Rows.uptoBulk, List.append_nil] at hb
  refine (Go.DS.start ext_ok (dirClone_lim false false a0 a1 (by have := b0.1; omega) (fun x hx => by have := (b0.2 x hx).path; omega) (by have := b1.1; omega) (fun x hx => by have := (b1.2 x hx).path; omega)) W (vs := #[v0, v1]) (.cons (y0) (.cons (y1) (.nil _)))).mono fun e W' ⟨he, bel⟩ => ?_
  subst he
  exact ⟨_, rfl, _, _, _, [], _, [], hW', trodAll_mk1 (shut_bool Try.underlying4 _), (trodAll_cons_mk (Below.trod laidOut' (by kernel_rfl) (of_decide_eq_true (by kernel_rfl)) k0 bel lt0) (trodAll_cons_mk (Below.trod laidOut' (by kernel_rfl) (of_decide_eq_true (by kernel_rfl)) k1 bel lt1) trodAll_mk0)), rfl, bel.frame _, fun h => by cases h⟩

set_option maxRecDepth 100000 in
theorem lifted (os : Os) (started : os.Started) (H : Type) (enc : TypeId × Value → H) (F : Stop.Interp) :
    ReturnsInHanded {} Try.checked os 7 .any ((Rows.OpenSpec.upto Rows.dirCloneSpec).pre6 enc Try.prog Try.f7 Rows.dirCloneUptoRow.domain false) (((Rows.OpenSpec.upto Rows.dirCloneSpec).at F).post enc Try.prog Try.f7 false true false false) := by
  refine returnsInHanded_of_cond (C := Try.checked) (s := Rows.OpenSpec.upto Rows.dirCloneSpec) (k := Rows.uptoSmall) rfl own' started (by kernel_rfl) Try.func7
    (OpenSpec.witness (enc := enc) (C := Try.checked) (s := Rows.OpenSpec.upto Rows.dirCloneSpec) (k := Rows.uptoSmall) rfl false ⟨#[], #[.slice none 0 0, .slice none 0 0], []⟩ 8 (by kernel_rfl) (by kernel_rfl) (by kernel_rfl)
      (x := ([.nil, .nil], [], [])) (by kernel_rfl) rfl (by kernel_rfl)) ?_
  intro W base args ds gs before hval hW _ hk _
  exact contract H enc W base args ds gs before hval hW hk

theorem over : Rows.dirCloneUptoRow.holds Try.pinned (Rows.OpenSpec.upto Rows.dirCloneSpec) :=
  OpenClaim.holds_of_cond 7 Try.f7 rfl rfl rfl rfl rfl rfl rfl ⟨rfl, rfl, rfl, rfl, rfl⟩ rfl rfl rfl rfl rfl (by kernel_rfl) Try.func7 (by kernel_rfl)
    (of_decide_eq_true (by kernel_rfl)) (by unfold Func.isWrapper; first | (rw [if_pos (by decide +kernel)]; kernel_rfl) | (rw [if_neg (by decide +kernel)]; exact ⟨rfl, rfl⟩))
    (fun os started H enc _ F => lifted os started H enc F)

theorem proved : Rows.DirCloneUptoSaid := over
#print axioms proved
end Go.Proofs.Ytmkghiigpffhlaa.dirClone
namespace Go.Proofs.Ytmkghiigpffhlaa
theorem dirClone_holds : Rows.DirCloneUptoSaid := dirClone.proved
end Go.Proofs.Ytmkghiigpffhlaa
