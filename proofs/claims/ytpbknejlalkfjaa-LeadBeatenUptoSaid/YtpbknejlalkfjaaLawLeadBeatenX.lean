/-
  Walks: the law LeadBeaten.
-/
import Derived.Test.YtpbknejlalkfjaaHA
import Derived.WalkKit
import Derived.ProofKit
import Derived.OpenShut
import Derived.ShutString
import Derived.ChangeOld
import Derived.Below
import Derived.JoinedCond
import Derived.Carry
set_option linter.unusedSimpArgs false
set_option linter.unusedVariables false
namespace Go.DS
open Go Go.Proofs
set_option maxRecDepth 100000
set_option linter.unusedVariables false
set_option linter.unusedSimpArgs false
def cd7 : Cd := .seq (R [c0 4 (.new false (.s 0)), c0 5 (.new false (.s 1)), c0 6 (.new false (.s 2)), cb 8 (.mv (.c (kb false)))] [3, 4, 5, 6, 13]) (.seq (R [cb 14 (.call none (.c (kf 8)) []), cb 9 (.tk (.s 14))] [3, 4, 5, 6, 9, 13]) (.seq (.seq (R [cb 15 (.mv (.s 9)), cb 16 (.un .not (.s 15))] [3, 4, 5, 6, 9, 13, 16]) (.ite (.s 16) (.seq (R [cb 8 (.mv (.c (kb false)))] [4, 5, 6, 8, 13]) (.ret)) (.skip))) (.seq (.seq (R [c0 17 (.mov 1 (.s 4)), c0 18 (.ld false 3 (.s 17)), c0 19 (.len 1 (.s 18)), cb 20 (.bin .gtr .any (.s 19) (.c (ki .i64 40))), cb 21 (.mv (.s 20)), cg 22 21 false (.ld true 2 (.s 6)), ch 23 21 false (.call none (.c (kf 21)) [(.s 22)]), ch 24 21 false (.un .not (.s 23)), cb 25 (.pick (.s 21) (.c (kb true)) (.s 24)), cb 26 (.mv (.s 25)), cg 27 26 false (.mov 6 (.s 5)), cg 28 26 false (.ld true 2 (.s 27)), ch 29 26 false (.call none (.c (kf 21)) [(.s 28)]), ch 30 26 false (.un .not (.s 29)), cb 31 (.pick (.s 26) (.c (kb true)) (.s 30)), cb 32 (.mv (.s 31)), cg 33 32 false (.ld true 27 (.s 5)), ch 34 32 false (.call none (.c (kf 22)) [(.s 33)]), ch 35 32 false (.un .not (.s 34)), cb 36 (.pick (.s 32) (.c (kb true)) (.s 35))] [3, 4, 5, 6, 9, 13, 36]) (.ite (.s 36) (.seq (R [cb 37 (.mv (.s 9)), cb 8 (.mv (.s 37))] [4, 5, 6, 8, 13]) (.ret)) (.skip))) (.seq (R [c0 38 (.ld true 2 (.s 4)), c0 39 (.mov 1 (.s 5)), c0 40 (.ld false 1 (.s 39)), c0 41 (.mov 3 (.s 5)), c0 42 (.ld true 3 (.s 41)), c0 43 (.mov 6 (.s 5)), c0 44 (.ld true 2 (.s 43)), c0 45 (.call none (.c (kf 10)) [(.s 38), (.s 40), (.s 42), (.s 44)]), c0 10 (.tk (.s 45))] [3, 4, 5, 6, 9, 10, 13]) (.seq (.seq (R [c0 46 (.mv (.s 10)), cb 47 (.bin .eql .ptr (.s 46) (.c (.sc (.pointer none))))] [3, 4, 5, 6, 9, 10, 13, 47]) (.ite (.s 47) (.seq (R [cb 8 (.mv (.c (kb false)))] [4, 5, 6, 8, 13]) (.ret)) (.skip))) (.seq (R [c0 48 (.mv (.s 10)), c0 49 (.mv (.s 3)), c0 50 (.mov 3 (.s 5)), c0 51 (.ld true 3 (.s 50)), c0 52 (.ld true 2 (.s 6)), c0 53 (.bld [ki .i64 0, ki .i64 0, ki .i64 0, ki .i64 0, ki .i64 0, ki .i64 0, ki .i64 0, ki .i64 0, ki .i64 0, ki .i64 0, ki .i64 0, ki .i64 0, ki .i64 0, ki .i64 0, ki .i64 0, ki .i64 0, ks [], ks [], ki .i64 0, ki .i64 0, ki .i64 0, ki .i64 0, kz 3, ki .i64 0, kz 1, kz 3, kz 6] [(0, 1, (.c (ki .i64 7))), (1, 1, (.s 49)), (3, 3, (.s 51)), (6, 2, (.s 52))]), cb 54 (.call none (.c (kf 13)) [(.s 48), (.s 53)]), cb 11 (.tk (.s 54))] [3, 4, 5, 6, 9, 10, 11, 13]) (.seq (R [c0 55 (.mov 6 (.s 5)), c0 56 (.ld true 2 (.s 55)), c0 57 (.ld true 2 (.s 6)), cb 58 (.call none (.c (kf 23)) [(.s 56), (.s 57)]), cb 59 (.mv (.s 58)), cg 60 59 true (.ld true 2 (.s 4)), cg 61 59 true (.mv (.s 3)), ch 62 59 true (.call none (.c (kf 14)) [(.s 60), (.s 61)]), cb 63 (.pick (.s 59) (.s 62) (.c (kb false))), cb 12 (.tk (.s 63))] [4, 5, 6, 9, 10, 11, 12, 13]) (.seq (.seq (R [cb 64 (.mv (.s 11)), cb 65 (.mv (.s 12)), cb 66 (.bin .neq .bool (.s 64) (.s 65)), cb 67 (.mv (.s 66)), cg 68 67 false (.mv (.s 10)), cg 69 67 false (.call none (.c (kf 12)) [(.s 68)]), ch 70 67 false (.bin .eql .any (.s 69) (.c (ki .i64 4))), ch 71 67 false (.mv (.s 12)), ch 72 67 false (.bin .neq .bool (.s 70) (.s 71)), cb 73 (.pick (.s 67) (.c (kb true)) (.s 72))] [4, 5, 6, 9, 10, 12, 13, 73]) (.ite (.s 73) (.seq (R [cb 8 (.mv (.c (kb false)))] [4, 5, 6, 8, 13]) (.ret)) (.skip))) (.seq (RD [cd (some 74) false none (.mov 6 (.s 5)) false false [5], cd (some 75) false none (.ld true 2 (.s 74)) false false [74], cd (some 76) false none (.mv (.s 10)) false false [10], cd (some 77) false none (.call none (.c (kf 26)) [(.s 76)]) false false [76], cd (some 78) false none (.call none (.c (kf 25)) [(.s 75), (.s 77)]) false false [75, 77], cd (some 79) false none (.mov 1 (.s 5)) false false [5], cd (some 80) false none (.ld false 1 (.s 79)) false false [79], cd (some 81) false none (.call none (.c (kf 24)) [(.s 78), (.s 80)]) false false [78, 80], cd (some 13) false none (.new false (.c (.agg [ki .i64 0, ki .i64 0]))) true false [], cd none false none (.st 2 (.s 13) (.s 81)) false false [13, 81]] [4, 5, 6, 9, 10, 12, 13] [148, 158]) (.seq (RD (cd (some 82) true none (.mv (.s 9)) false false [9] :: cd (some 83) true none (.mv (.s 82)) false false [82] :: cd (some 84) false (some (83, true)) (.mov 6 (.s 5)) false false [5] :: cd (some 85) false (some (83, true)) (.ld true 2 (.s 84)) false false [84] :: cd (some 86) false (some (83, true)) (.ld true 2 (.s 13)) false false [13] :: cd (some 87) true (some (83, true)) (.call none (.c (kf 23)) [(.s 85), (.s 86)]) false false [85, 86] :: cd (some 88) true none (.pick (.s 83) (.s 87) (.c (kb false))) false false [83, 87] :: cd (some 89) true none (.mv (.s 88)) false false [88] :: cd (some 90) true (some (89, true)) (.mv (.s 12)) false false [12] :: cd (some 91) true (some (89, true)) (.un .not (.s 90)) false false [90] :: cd (some 92) true (some (89, true)) (.mv (.s 91)) false false [91] :: cd (some 93) false (some (92, false)) (.ld true 2 (.s 6)) false false [6] :: cd (some 94) false (some (92, false)) (.ld true 2 (.s 13)) false false [13] :: cd (some 95) true (some (92, false)) (.call none (.c (kf 23)) [(.s 93), (.s 94)]) false false [93, 94] :: cd (some 96) true (some (92, false)) (.mv (.s 95)) false false [95] :: cd (some 97) false (some (96, true)) (.mv (.s 10)) false false [10] :: cd (some 98) false (some (96, true)) (.call none (.c (kf 26)) [(.s 97)]) false false [97] :: cd (some 99) false (some (96, true)) (.ld true 2 (.s 6)) false false [6] :: cd (some 100) true (some (96, true)) (.bin .eql (.flat [0, 0]) (.s 98) (.s 99)) false false [98, 99] :: cd (some 101) true (some (92, false)) (.pick (.s 96) (.s 100) (.c (kb false))) false false [96, 100] :: cd (some 102) true (some (92, false)) (.mv (.s 101)) false false [101] :: cd (some 103) false (some (102, true)) (.mv (.s 10)) false false [10] :: cd (some 104) false (some (102, true)) (.call none (.c (kf 11)) [(.s 103)]) false false [103] :: cd (some 105) false (some (102, true)) (.len 1 (.s 104)) false false [104] :: cd (some 106) true (some (102, true)) (.bin .eql .any (.s 105) (.c (ki .i64 0))) false false [105] :: cd (some 107) true (some (92, false)) (.pick (.s 102) (.s 106) (.c (kb false))) false false [102, 106] :: cd (some 108) true (some (89, true)) (.pick (.s 92) (.c (kb true)) (.s 107)) false false [92, 107] :: cd (some 109) true none (.pick (.s 89) (.s 108) (.c (kb false))) false false [89, 108] :: cd (some 8) true none (.mv (.s 109)) false false [109] :: []) [4, 5, 6, 8, 13] [12, 192]) (.ret)))))))))))
theorem fun7 : Fun Try.prog cfg 7 110 cd7 [.s 8] := ⟨rfl, Try.f7, _, Try.func7, rfl, rfl, by kernel_rfl, by kernel_rfl⟩
@[go_sem] theorem ok7 : calleeOK Try.prog 7 = true := by kernel_rfl
@[go_sem] theorem ex7 : (cfg.ext 7).isSome = false := rfl
variable {h : DHeap}
set_option maxHeartbeats 4000000 in
theorem leadBeaten_lim (c : Con) (x : Mes) (b : Bal) (frm : Int) : lim Try.prog cfg 7 [.agg [vi c.epoch, .list false 1 (vnums c.nodes)], mesD x, .agg [vi b.no, vi b.node], vi frm] h = some (vb true, h) := by
  refine lim_funp fun7 rfl (by simp) (by simp [heapFree, heapFree.all, free_vnums, free_mess, free_idr, free_pes, free_pss]) rfl ?_
  delta cd7
  have w := works16_lim (h := [])
  have v1 := validB_lim (h := []) b
  have v2 := validB_lim (h := []) x.bal
  have s1 := small16_lim (h := []) x
  by_cases c3 : 40 < c.nodes.length
  · have c3' : (40 : Int) < (c.nodes.length : Int) := by omega
    simp -implicitDefEqProofs -dsimp (maxSteps := 300000) only [go_sem, w, c3']
  have c3' : ¬ (40 : Int) < (c.nodes.length : Int) := by omega
  cases c1 : balB b with
  | false => rw [c1] at v1; simp -implicitDefEqProofs -dsimp (maxSteps := 300000) only [go_sem, w, c3', v1]
  | true =>
  rw [c1] at v1
  cases c2 : balB x.bal with
  | false => rw [c2] at v2; simp -implicitDefEqProofs -dsimp (maxSteps := 300000) only [go_sem, w, c3', v1, v2]
  | true =>
  rw [c2] at v2
  cases c4 : overM [x] with
  | true => rw [c4] at s1; simp -implicitDefEqProofs -dsimp (maxSteps := 300000) only [go_sem, w, c3', v1, v2, s1]
  | false =>
  rw [c4] at s1
  simp only [Bool.not_false] at s1
  have t1 := takeHL_lim c x.frm x.id x.bal (by omega)
  have W0 := takeL_W c x.frm x.id x.bal (by omega)
  have hm : MesOK ⟨7, frm, 0, x.id, b, ins0, ⟨⟨0, []⟩, [], []⟩⟩ := ⟨by simp [ins0], by simp [ins0]⟩
  have e1 : lim Try.prog cfg 13 [.ptr 0 0, .agg [vi 7, vi frm, vi 0, vi x.id.e, vi x.id.n, vi x.id.k, vi b.no, vi b.node, vi 0, vi 0, vi 0, vi 0, vi 0, vi 0, vi 0, vi 0, vs [], vs [], vi 0, vi 0, vi 0, vi 0, .list false 3 [], vi 0, .list false 1 [], .list false 3 [], .list false 6 []]] (HL (takeL c x.frm x.id x.bal)) = _ := hearHL_lim W0 (by omega) ⟨7, frm, 0, x.id, b, ins0, ⟨⟨0, []⟩, [], []⟩⟩ hm
  have W1 := W0.hear hm
  rw [hear_no _ _ rfl rfl rfl] at e1 W1
  have l1 := fun h => lessB_lim (h := h) x.bal b
  have b1 : -1000 ≤ b.no ∧ b.no ≤ 1099511627776 := by simp [balB] at c1; omega
  have b2 : -1000 ≤ x.bal.no ∧ x.bal.no ≤ 1099511627776 := by simp [balB] at c2; omega
  have hs1 := fun h => rhasC_lim (h := h) c.epoch c.nodes frm (by omega)
  dsimp only at e1 W1
  have p1 := phaseHL_lim W1
  have q1 := ballotHL_lim W1
  have z1 := waitHL_lim W1 (by omega)
  simp only [show (takeL c x.frm x.id x.bal).con.nodes = c.nodes from rfl, show (takeL c x.frm x.id x.bal).bal = x.bal from rfl] at e1 p1 q1 z1
  cases k1 : lessB x.bal b with
  | false =>
    simp only [k1] at l1
    simp only [k1, Bool.and_false, Bool.false_eq_true, if_false] at e1 p1 q1 z1
    have m1 := fun h => mostB_lim (h := h) x.bal x.bal
    have n1 := fun h => nextB_lim (h := h) (mostB x.bal x.bal) x.frm
    obtain ⟨n2, _⟩ := next_less b2.2 b2.2 b2.1 b2.1 x.frm
    have n3 : ∀ h, lim Try.prog cfg 23 [.agg [vi x.bal.no, vi x.bal.node], .agg [vi (nextB (mostB x.bal x.bal) x.frm).no, vi x.frm]] h = some (vb (lessB x.bal (nextB (mostB x.bal x.bal) x.frm)), h) := fun h => lessB_lim (h := h) x.bal (nextB (mostB x.bal x.bal) x.frm)
    simp only [n2] at n3
    have q2 : lim Try.prog cfg 26 [.ptr 0 0] (HL (takeL c x.frm x.id x.bal)) = some (.agg [vi x.bal.no, vi x.bal.node], HL (takeL c x.frm x.id x.bal)) := q1
    have p2 : lim Try.prog cfg 12 [.ptr 0 0] (HL (takeL c x.frm x.id x.bal)) = some (vi 2, HL (takeL c x.frm x.id x.bal)) := p1
    clear q1 p1
    generalize HL (takeL c x.frm x.id x.bal) = h0 at *
    generalize mostB x.bal x.bal = mb at *
    generalize (nextB mb x.frm).no = nn at *
    simp -implicitDefEqProofs -dsimp (maxSteps := 300000) only [go_sem, ↓wp_RDc, postC_path2, Nat.reduceDiv, w, c3', v1, v2, s1, t1, e1, l1, p2, q2, z1, m1, n1, n3]
  | true =>
    simp only [k1] at l1
    simp only [k1, Bool.and_true] at e1 p1 q1 z1
    by_cases k2 : frm ∈ c.nodes
    case neg =>
      simp only [decide_eq_false k2] at hs1
      simp only [decide_eq_false k2, Bool.false_eq_true, if_false] at e1 p1 q1 z1
      have m1 := fun h => mostB_lim (h := h) x.bal x.bal
      have n1 := fun h => nextB_lim (h := h) (mostB x.bal x.bal) x.frm
      obtain ⟨n2, _⟩ := next_less b2.2 b2.2 b2.1 b2.1 x.frm
      have n3 : ∀ h, lim Try.prog cfg 23 [.agg [vi x.bal.no, vi x.bal.node], .agg [vi (nextB (mostB x.bal x.bal) x.frm).no, vi x.frm]] h = some (vb (lessB x.bal (nextB (mostB x.bal x.bal) x.frm)), h) := fun h => lessB_lim (h := h) x.bal (nextB (mostB x.bal x.bal) x.frm)
      simp only [n2] at n3
      have q2 : lim Try.prog cfg 26 [.ptr 0 0] (HL (takeL c x.frm x.id x.bal)) = some (.agg [vi x.bal.no, vi x.bal.node], HL (takeL c x.frm x.id x.bal)) := q1
      have p2 : lim Try.prog cfg 12 [.ptr 0 0] (HL (takeL c x.frm x.id x.bal)) = some (vi 2, HL (takeL c x.frm x.id x.bal)) := p1
      clear q1 p1
      generalize HL (takeL c x.frm x.id x.bal) = h0 at *
      generalize mostB x.bal x.bal = mb at *
      generalize (nextB mb x.frm).no = nn at *
      simp -implicitDefEqProofs -dsimp (maxSteps := 300000) only [go_sem, ↓wp_RDc, postC_path2, Nat.reduceDiv, w, c3', v1, v2, s1, t1, e1, l1, hs1, p2, q2, z1, m1, n1, n3]
    case pos =>
      simp only [decide_eq_true k2] at hs1
      simp only [decide_eq_true k2, if_true] at e1 p1 q1 z1
      have m1 := fun h => mostB_lim (h := h) x.bal b
      have n1 := fun h => nextB_lim (h := h) (mostB x.bal b) x.frm
      obtain ⟨n2, n4⟩ := next_less b2.2 b1.2 b2.1 b1.1 x.frm
      have n3 : ∀ h, lim Try.prog cfg 23 [.agg [vi x.bal.no, vi x.bal.node], .agg [vi (nextB (mostB x.bal b) x.frm).no, vi x.frm]] h = some (vb (lessB x.bal (nextB (mostB x.bal b) x.frm)), h) := fun h => lessB_lim (h := h) x.bal (nextB (mostB x.bal b) x.frm)
      have n5 : ∀ h, lim Try.prog cfg 23 [.agg [vi b.no, vi b.node], .agg [vi (nextB (mostB x.bal b) x.frm).no, vi x.frm]] h = some (vb (lessB b (nextB (mostB x.bal b) x.frm)), h) := fun h => lessB_lim (h := h) b (nextB (mostB x.bal b) x.frm)
      simp only [n2] at n3
      simp only [n4] at n5
      have q2 : lim Try.prog cfg 26 [.ptr 0 0] (HL (turnL { takeL c x.frm x.id x.bal with btn := b } 4 ⟨0, 0, 0, [], [], 0, 0, 0⟩ ⟨0, []⟩)) = some (.agg [vi b.no, vi b.node], HL (turnL { takeL c x.frm x.id x.bal with btn := b } 4 ⟨0, 0, 0, [], [], 0, 0, 0⟩ ⟨0, []⟩)) := q1
      have p2 : lim Try.prog cfg 12 [.ptr 0 0] (HL (turnL { takeL c x.frm x.id x.bal with btn := b } 4 ⟨0, 0, 0, [], [], 0, 0, 0⟩ ⟨0, []⟩)) = some (vi 4, HL (turnL { takeL c x.frm x.id x.bal with btn := b } 4 ⟨0, 0, 0, [], [], 0, 0, 0⟩ ⟨0, []⟩)) := p1
      have z2 : lim Try.prog cfg 11 [.ptr 0 0] (HL (turnL { takeL c x.frm x.id x.bal with btn := b } 4 ⟨0, 0, 0, [], [], 0, 0, 0⟩ ⟨0, []⟩)) = some (.list true 1 [], HL (turnL { takeL c x.frm x.id x.bal with btn := b } 4 ⟨0, 0, 0, [], [], 0, 0, 0⟩ ⟨0, []⟩)) := z1
      have e2 : lim Try.prog cfg 13 [.ptr 0 0, .agg [vi 7, vi frm, vi 0, vi x.id.e, vi x.id.n, vi x.id.k, vi b.no, vi b.node, vi 0, vi 0, vi 0, vi 0, vi 0, vi 0, vi 0, vi 0, vs [], vs [], vi 0, vi 0, vi 0, vi 0, .list false 3 [], vi 0, .list false 1 [], .list false 3 [], .list false 6 []]] (HL (takeL c x.frm x.id x.bal)) = some (vb true, HL (turnL { takeL c x.frm x.id x.bal with btn := b } 4 ⟨0, 0, 0, [], [], 0, 0, 0⟩ ⟨0, []⟩)) := e1
      clear q1 p1 z1 e1
      generalize HL (takeL c x.frm x.id x.bal) = h0 at *
      generalize HL (turnL { takeL c x.frm x.id x.bal with btn := b } 4 ⟨0, 0, 0, [], [], 0, 0, 0⟩ ⟨0, []⟩) = h1 at *
      generalize mostB x.bal b = mb at *
      generalize (nextB mb x.frm).no = nn at *
      simp -implicitDefEqProofs -dsimp (maxSteps := 300000) only [go_sem, ↓wp_RDc, postC_path2, Nat.reduceDiv, w, c3', v1, v2, s1, t1, e2, l1, hs1, p2, q2, z2, m1, n1, n3, n5]
end Go.DS

/-
  The row LeadBeaten.
-/
namespace Go.Proofs.Ytpbknejlalkfjaa.leadBeaten
open Go.ChangeShapes Go.WideShapes Go.ChangeAt Go.RowKit
open Go.ChangeMaps (open_string shut_string)
open Go.DS
set_option linter.unusedVariables false
set_option linter.unusedSimpArgs false

set_option maxRecDepth 100000 in
theorem contract (H : Type) (enc : TypeId × Value → H) (W : World) (base : Nat) (args : Array Value) (ds gs : List (DataW H)) (before : List MemPlace)
    (hval0 : ∀ (j : Nat) t v, Try.f7.params[j]? = some t → args[j]? = some v → Value.okWide Try.prog W .any base t v)
    (hW : DataW.Whole enc Try.prog Try.f7.params.toList Rows.leadBeatenSpec.vars false W args.toList ds gs before) (hk : Rows.uptoSmall H (ds ++ gs) = true) :
    Calls Try.prog 7 args W fun e W' => ∃ v, e = .returned v ∧ Rows.leadBeatenSpec.post enc Try.prog Try.f7 false true false false W args v W' := by
  have hval : ∀ (j : Nat) t v, Try.f7.params[j]? = some t → args[j]? = some v → Value.okWide Try.prog W .any base t v := hval0
  have hW' := hW
  obtain ⟨p, q, hA0, hV, rfl, hfz, hnd⟩ := hW
  have hA : DataW.TrodAll enc Try.prog W 0 (fun _ => true) true Try.f7.params.toList args.toList ds p := hA0
  rw [Try.params7] at hA hval
  obtain ⟨v0, vs0, d0, ds0, p0, q0, hargs, rfl, rfl, h0, r0⟩ := trodAll_cons hA
  obtain ⟨v1, vs1, d1, ds1, p1, q1, rfl, rfl, rfl, h1, r1⟩ := trodAll_cons r0
  obtain ⟨v2, vs2, d2, ds2, p2, q2, rfl, rfl, rfl, h2, r2⟩ := trodAll_cons r1
  obtain ⟨v3, vs3, d3, ds3, p3, q3, rfl, rfl, rfl, h3, r3⟩ := trodAll_cons r2
  obtain ⟨rfl, rfl, rfl⟩ := trodAll_nil r3
  obtain rfl : args = #[v0, v1, v2, v3] := by cases args; simp_all
  obtain ⟨rfl, rfl⟩ := trodVars_none hV
  have lt0 : ∀ x ∈ p0, x.block < W.heap.size := by obtain ⟨m, hm⟩ := h0; exact DataW.trod_lt m _ _ _ hm
  have k0 := h0
  obtain ⟨a0, y0, b0⟩ := arg_con (B := 1048575) (hval 0 24 v0 rfl rfl) h0 (by have hb := of_decide_eq_true hk; simp only [Rows.uptoBulkAll, List.append_nil, List.cons_append, List.nil_append] at hb; omega)
  have lt1 : ∀ x ∈ p1, x.block < W.heap.size := by obtain ⟨m, hm⟩ := h1; exact DataW.trod_lt m _ _ _ hm
  have k1 := h1
  obtain ⟨a1, y1, b1⟩ := arg_mes (B := 1048575) (hval 1 44 v1 rfl rfl) h1 (by have hb := of_decide_eq_true hk; simp only [Rows.uptoBulkAll, List.append_nil, List.cons_append, List.nil_append] at hb; omega)
  have lt2 : ∀ x ∈ p2, x.block < W.heap.size := by obtain ⟨m, hm⟩ := h2; exact DataW.trod_lt m _ _ _ hm
  have k2 := h2
  obtain ⟨a2, y2, b2⟩ := arg_bal (B := 1048575) (hval 2 29 v2 rfl rfl) h2 (by have hb := of_decide_eq_true hk; simp only [Rows.uptoBulkAll, List.append_nil, List.cons_append, List.nil_append] at hb; omega)
  have lt3 : ∀ x ∈ p3, x.block < W.heap.size := by obtain ⟨m, hm⟩ := h3; exact DataW.trod_lt m _ _ _ hm
  have k3 := h3
  obtain ⟨a3, rfl, rfl, rfl, y3⟩ := open_int Try.underlying3 (hval 3 3 v3 rfl rfl) h3
  clear hA0 hval0
  have hb := of_decide_eq_true hk
  simp only [Rows.uptoBulkAll, Rows.uptoBulk, List.append_nil] at hb
  refine (Go.DS.start ext_ok (leadBeaten_lim a0 a1 a2 a3) W (vs := #[v0, v1, v2, .int .i64 a3]) (.cons (y0) (.cons (y1) (.cons (y2) (.cons (.sc _) (.nil _)))))).mono fun e W' ⟨he, bel⟩ => ?_
  subst he
  exact ⟨_, rfl, _, _, _, [], _, [], hW', trodAll_mk1 (shut_bool Try.underlying4 _), (trodAll_cons_mk (Below.trod laidOut' (by kernel_rfl) (of_decide_eq_true (by kernel_rfl)) k0 bel lt0) (trodAll_cons_mk (Below.trod laidOut' (by kernel_rfl) (of_decide_eq_true (by kernel_rfl)) k1 bel lt1) (trodAll_cons_mk (Below.trod laidOut' (by kernel_rfl) (of_decide_eq_true (by kernel_rfl)) k2 bel lt2) (trodAll_cons_mk (Below.trod laidOut' (by kernel_rfl) (of_decide_eq_true (by kernel_rfl)) k3 bel lt3) trodAll_mk0)))), rfl, bel.frame _, fun h => by cases h⟩

set_option maxRecDepth 100000 in
theorem lifted (os : Os) (started : os.Started) (H : Type) (enc : TypeId × Value → H) (F : Stop.Interp) :
    ReturnsInHanded {} Try.checked os 7 .any ((Rows.OpenSpec.upto Rows.leadBeatenSpec).pre6 enc Try.prog Try.f7 Rows.leadBeatenUptoRow.domain false) (((Rows.OpenSpec.upto Rows.leadBeatenSpec).at F).post enc Try.prog Try.f7 false true false false) := by
  refine returnsInHanded_of_cond (C := Try.checked) (s := Rows.OpenSpec.upto Rows.leadBeatenSpec) (k := Rows.uptoSmall) rfl own' started (by kernel_rfl) Try.func7
    (OpenSpec.witness (enc := enc) (C := Try.checked) (s := Rows.OpenSpec.upto Rows.leadBeatenSpec) (k := Rows.uptoSmall) rfl false ⟨#[], #[.agg #[.int .i64 0, .slice none 0 0], .agg #[.int .i64 0, .int .i64 0, .int .i64 0, .int .i64 0, .int .i64 0, .int .i64 0, .int .i64 0, .int .i64 0, .int .i64 0, .int .i64 0, .int .i64 0, .int .i64 0, .int .i64 0, .int .i64 0, .int .i64 0, .int .i64 0, .string ByteArray.empty, .string ByteArray.empty, .int .i64 0, .int .i64 0, .int .i64 0, .int .i64 0, .slice none 0 0, .int .i64 0, .slice none 0 0, .slice none 0 0, .slice none 0 0], .agg #[.int .i64 0, .int .i64 0], .int .i64 0], []⟩ 8 (by kernel_rfl) (by kernel_rfl) (by kernel_rfl)
      (x := ([.agg [.lit (.int .i64 0), .nil], .agg [.lit (.int .i64 0), .lit (.int .i64 0), .lit (.int .i64 0), .agg [.lit (.int .i64 0), .lit (.int .i64 0), .lit (.int .i64 0)], .agg [.lit (.int .i64 0), .lit (.int .i64 0)], .agg [.lit (.int .i64 0), .agg [.lit (.int .i64 0), .lit (.int .i64 0)], .agg [.lit (.int .i64 0), .lit (.int .i64 0)], .agg [.lit (.int .i64 0), .lit (.int .i64 0), .lit (.int .i64 0), .lit (.string []), .lit (.string []), .lit (.int .i64 0), .lit (.int .i64 0), .lit (.int .i64 0)], .agg [.lit (.int .i64 0), .nil]], .agg [.agg [.lit (.int .i64 0), .nil], .nil, .nil]], .agg [.lit (.int .i64 0), .lit (.int .i64 0)], .lit (.int .i64 0)], [], [])) (by kernel_rfl) rfl (by kernel_rfl)) ?_
  intro W base args ds gs before hval hW _ hk _
  exact contract H enc W base args ds gs before hval hW hk

theorem over : Rows.leadBeatenUptoRow.holds Try.pinned (Rows.OpenSpec.upto Rows.leadBeatenSpec) :=
  OpenClaim.holds_of_cond 7 Try.f7 rfl rfl rfl rfl rfl rfl rfl ⟨rfl, rfl, rfl, rfl, rfl⟩ rfl rfl rfl rfl rfl (by kernel_rfl) Try.func7 (by kernel_rfl)
    (of_decide_eq_true (by kernel_rfl)) (by unfold Func.isWrapper; first | (rw [if_pos (by decide +kernel)]; kernel_rfl) | (rw [if_neg (by decide +kernel)]; exact ⟨rfl, rfl⟩))
    (fun os started H enc _ F => lifted os started H enc F)

theorem proved : Rows.LeadBeatenUptoSaid := over
#print axioms proved
end Go.Proofs.Ytpbknejlalkfjaa.leadBeaten
namespace Go.Proofs.Ytpbknejlalkfjaa
theorem leadBeaten_holds : Rows.LeadBeatenUptoSaid := leadBeaten.proved
end Go.Proofs.Ytpbknejlalkfjaa
