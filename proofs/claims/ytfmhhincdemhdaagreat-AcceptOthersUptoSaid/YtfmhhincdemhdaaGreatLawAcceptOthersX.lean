/-
  Walks: the law AcceptOthers.
-/
import Derived.Test.YtfmhhincdemhdaaGreatH9
import Derived.WalkKit
import Derived.ProofKit
import Derived.OpenShut
import Derived.ShutString
import Derived.ChangeOld
import Derived.Below
import Derived.JoinedCond
import Derived.Carry
set_option linter.unusedSimpArgs false
set_option linter.unusedVariables false
namespace Go.DS
open Go Go.Proofs
set_option maxRecDepth 100000
set_option linter.unusedVariables false
set_option linter.unusedSimpArgs false
def cd5 : Cd := .seq (R [c0 6 (.new false (.s 1)), c0 8 (.new false (.s 3)), c0 9 (.new false (.s 4)), cb 10 (.mv (.c (kb false)))] [0, 2, 6, 8, 9, 14, 15]) (.seq (R [cb 18 (.call none (.c (kf 11)) []), cb 11 (.tk (.s 18))] [0, 2, 6, 8, 9, 11, 14, 15]) (.seq (.seq (R [cb 19 (.mv (.s 11)), cb 20 (.un .not (.s 19))] [0, 2, 6, 8, 9, 11, 14, 15, 20]) (.ite (.s 20) (.seq (R [cb 10 (.mv (.c (kb false)))] [6, 8, 9, 10, 14, 15]) (.ret)) (.skip))) (.seq (.seq (R [c0 21 (.mv (.s 2)), cb 22 (.call none (.c (kf 12)) [(.s 21)]), cb 23 (.mv (.s 22)), cg 24 23 false (.ld true 27 (.s 8)), cg 25 23 false (.bsl 27 [(.s 24)]), ch 26 23 false (.call none (.c (kf 12)) [(.s 25)]), cb 27 (.pick (.s 23) (.c (kb true)) (.s 26)), cb 28 (.mv (.s 27)), cg 29 28 false (.mov 1 (.s 6)), cg 30 28 false (.ld false 3 (.s 29)), cg 31 28 false (.len 1 (.s 30)), ch 32 28 false (.bin .gtr .any (.s 31) (.c (ki .i64 40))), cb 33 (.pick (.s 28) (.c (kb true)) (.s 32))] [0, 2, 6, 8, 9, 11, 14, 15, 33]) (.ite (.s 33) (.seq (R [cb 34 (.mv (.s 11)), cb 10 (.mv (.s 34))] [6, 8, 9, 10, 14, 15]) (.ret)) (.skip))) (.seq (R [c0 35 (.mv (.s 0)), c0 36 (.ld true 2 (.s 6)), c0 37 (.call none (.c (kf 13)) [(.s 35), (.s 36)]), c0 12 (.tk (.s 37))] [2, 6, 8, 9, 11, 12, 14, 15]) (.seq (.seq (R [c0 13 (.tk (.c (ki .i64 0)))] [2, 6, 8, 9, 11, 12, 13, 14, 15]) (.block 0 (LP [2, 6, 8, 9, 11, 12, 13, 14, 15] (.seq (.seq (R [c0 38 (.mv (.s 13)), c0 39 (.mv (.s 2)), c0 40 (.len 1 (.s 39)), cb 41 (.bin .lss .any (.s 38) (.s 40))] [2, 6, 8, 9, 11, 12, 13, 14, 15, 41]) (.ite (.s 41) (.skip) (.exit 0))) (.seq (.block 1 (R [c0 44 (.mv (.s 12)), c0 45 (.mv (.s 2)), c0 46 (.mv (.s 13)), c0 47 (.ixp 27 (.s 45) (.s 46)), c0 48 (.ld true 27 (.s 47)), c0 49 (.call none (.c (kf 16)) [(.s 44), (.s 48)])] [2, 6, 8, 9, 11, 12, 13, 14, 15])) (R [c0 42 (.mv (.s 13)), c0 43 (.bin .add .any (.s 42) (.c (ki .i64 1))), c0 13 (.tk (.s 43))] [2, 6, 8, 9, 11, 12, 13, 14, 15])))))) (.seq (R [c0 50 (.mv (.s 12)), c0 51 (.ld true 3 (.s 9)), c0 52 (.call none (.c (kf 20)) [(.s 50), (.s 51)]), c0 14 (.new false (.c (.agg [ki .i64 0, ki .i64 0, ki .i64 0, ki .i64 0, ki .i64 0, ki .i64 0, ki .i64 0, ki .i64 0, ks [], ks [], ki .i64 0, ki .i64 0, ki .i64 0, ki .i64 0, kn 3]))), cn (.st 15 (.s 14) (.s 52))] [6, 8, 9, 11, 12, 14, 15]) (.seq (R [c0 53 (.mv (.s 12)), c0 54 (.mov 3 (.s 8)), c0 55 (.ld true 3 (.s 54)), c0 56 (.call none (.c (kf 20)) [(.s 53), (.s 55)]), c0 15 (.new false (.c (.agg [ki .i64 0, ki .i64 0, ki .i64 0, ki .i64 0, ki .i64 0, ki .i64 0, ki .i64 0, ki .i64 0, ks [], ks [], ki .i64 0, ki .i64 0, ki .i64 0, ki .i64 0, kn 3]))), cn (.st 15 (.s 15) (.s 56))] [6, 8, 9, 11, 12, 14, 15]) (.seq (R [c0 57 (.mv (.s 12)), c0 58 (.ld true 27 (.s 8)), cb 59 (.call none (.c (kf 15)) [(.s 57), (.s 58)]), cb 16 (.tk (.s 59))] [6, 8, 9, 11, 12, 14, 15, 16]) (.seq (R [c0 60 (.mv (.s 12)), c0 61 (.ld true 27 (.s 8)), c0 62 (.call none (.c (kf 16)) [(.s 60), (.s 61)]), c0 17 (.tk (.s 62))] [6, 8, 9, 11, 12, 14, 15, 16, 17]) (.seq (.seq (RD (cd (some 63) true none (.mv (.s 16)) false false [16] :: cd (some 64) true none (.un .not (.s 63)) false false [63] :: cd (some 65) true none (.mv (.s 64)) false false [64] :: cd (some 66) false (some (65, true)) (.mv (.s 17)) false false [17] :: cd (some 67) false (some (65, true)) (.len 1 (.s 66)) false false [66] :: cd (some 68) true (some (65, true)) (.bin .gtr .any (.s 67) (.c (ki .i64 0))) false false [67] :: cd (some 69) true (some (65, true)) (.mv (.s 68)) false false [68] :: cd (some 70) false (some (69, false)) (.ld true 15 (.s 15)) false false [15] :: cd (some 71) false (some (69, false)) (.mv (.s 12)) false false [12] :: cd (some 72) false (some (69, false)) (.mov 3 (.s 8)) false false [8] :: cd (some 73) false (some (69, false)) (.ld true 3 (.s 72)) false false [72] :: cd (some 74) false (some (69, false)) (.call none (.c (kf 20)) [(.s 71), (.s 73)]) false false [71, 73] :: cd (some 75) true (some (69, false)) (.call none (.c (kf 19)) [(.s 70), (.s 74)]) false false [70, 74] :: cd (some 76) true (some (69, false)) (.un .not (.s 75)) false false [75] :: cd (some 77) true (some (65, true)) (.pick (.s 69) (.c (kb true)) (.s 76)) false false [69, 76] :: cd (some 78) true none (.pick (.s 65) (.s 77) (.c (kb false))) false false [65, 77] :: cd (some 79) true none (.mv (.s 78)) false false [78] :: cd (some 80) false (some (79, false)) (.mv (.s 17)) false false [17] :: cd (some 81) false (some (79, false)) (.len 1 (.s 80)) false false [80] :: cd (some 82) true (some (79, false)) (.bin .gtr .any (.s 81) (.c (ki .i64 1))) false false [81] :: cd (some 83) true none (.pick (.s 79) (.c (kb true)) (.s 82)) false false [79, 82] :: []) [6, 8, 9, 11, 12, 14, 15, 83] [30, 138]) (.ite (.s 83) (.seq (R [cb 10 (.mv (.c (kb false)))] [6, 8, 9, 10, 14, 15]) (.ret)) (.skip))) (.seq (RD [cd (some 84) true none (.mv (.s 11)) false false [11], cd (some 85) true none (.mv (.s 84)) false false [84], cd (some 86) false (some (85, true)) (.ld true 3 (.s 9)) false false [9], cd (some 87) false (some (85, true)) (.mov 3 (.s 8)) false false [8], cd (some 88) false (some (85, true)) (.ld true 3 (.s 87)) false false [87], cd (some 89) true (some (85, true)) (.bin .eql (.flat [0, 0, 0]) (.s 86) (.s 88)) false false [86, 88], cd (some 90) true (some (85, true)) (.mv (.s 89)) false false [89], cd (some 91) false (some (90, false)) (.ld true 15 (.s 14)) false false [14], cd (some 92) false (some (90, false)) (.mv (.s 12)) false false [12], cd (some 93) false (some (90, false)) (.ld true 3 (.s 9)) false false [9], cd (some 94) false (some (90, false)) (.call none (.c (kf 20)) [(.s 92), (.s 93)]) false false [92, 93], cd (some 95) true (some (90, false)) (.call none (.c (kf 19)) [(.s 91), (.s 94)]) false false [91, 94], cd (some 96) true (some (85, true)) (.pick (.s 90) (.c (kb true)) (.s 95)) false false [90, 95], cd (some 97) true none (.pick (.s 85) (.s 96) (.c (kb false))) false false [85, 96], cd (some 10) true none (.mv (.s 97)) false false [97]] [6, 8, 9, 10, 14, 15] [28, 180]) (.ret))))))))))))
theorem fun5 : Fun Tryz.prog cfg 5 98 cd5 [.s 10] := ⟨rfl, Tryz.f5, _, Tryz.func5, rfl, rfl, by kernel_rfl, by kernel_rfl⟩
@[go_sem] theorem ok5 : calleeOK Tryz.prog 5 = true := by kernel_rfl
@[go_sem] theorem ex5 : (cfg.ext 5).isSome = false := rfl
variable {h : DHeap}
set_option maxHeartbeats 4000000 in
theorem acceptOthers_lim (node : Int) (c : Con) (l : List Mes) (m : Mes) (other : Id) : lim Tryz.prog cfg 5 [vi node, .agg [vi c.epoch, .list false 1 (vnums c.nodes)], .list false 27 (mess l), mesD m, idV other] h = some (vb true, h) := by
  refine lim_funp fun5 rfl (by simp) (by simp [heapFree, heapFree.all, free_vnums, free_mess, free_idr, free_pes, free_pss]) rfl ?_
  delta cd5
  have w := works15_lim (h := [])
  have o1 := over15_lim (h := []) false l
  have o2 : lim Tryz.prog cfg 12 [.list false 27 [mesL m]] [] = some (vb (overM [m]), []) := over15_lim (h := []) false [m]
  cases d1 : overM l with
  | true => rw [d1] at o1; simp -implicitDefEqProofs -dsimp (maxSteps := 300000) only [go_sem, w, o1]
  | false =>
  rw [d1] at o1
  cases d2 : overM [m] with
  | true => rw [d2] at o2; simp -implicitDefEqProofs -dsimp (maxSteps := 300000) only [go_sem, w, o1, o2]
  | false =>
  rw [d2] at o2
  by_cases d3 : 40 < c.nodes.length
  · have d3' : (40 : Int) < (c.nodes.length : Int) := by omega
    simp -implicitDefEqProofs -dsimp (maxSteps := 300000) only [go_sem, w, o1, o2, d3']
  have d3' : ¬ (40 : Int) < (c.nodes.length : Int) := by omega
  obtain ⟨hl, hl2⟩ := overM_ok d1
  have hm : MesOK m := (overM_ok d2).2 m (by simp)
  have n1 := newN_lim node c (by omega)
  simp -implicitDefEqProofs -dsimp (maxSteps := 300000) only [go_sem, w, o1, o2, d3', n1]
  have O : ∀ k, k ≤ 40 → BkOK 40 (hearAll ⟨node, c, []⟩ (l.take k)) := fun k hk =>
    (hearAll_ok (bkOK_new node c 0) (l.take k) fun x hx => hl2 x (List.mem_of_mem_take hx)).mono (by rw [List.length_take]; omega)
  have C : ∀ k, (hearAll ⟨node, c, []⟩ (l.take k)).con = c := fun k => (hearAll_con ⟨node, c, []⟩ (l.take k)).1
  refine wp_for (σ := Nat) (fun k => [(2, .list false 27 (mess l)), (6, .box [vi c.epoch, .list false 1 (vnums c.nodes)]), (8, .box (mesL m)), (9, .box [vi other.e, vi other.n, vi other.k]), (11, vb true), (12, .ptr 1 0), (13, vi (k : Nat)), (14, .junk), (15, .junk)]) (fun k => HN (hearAll ⟨node, c, []⟩ (l.take k))) (fun k => l.length - k) (fun k => k ≤ l.length) 0 (Nat.zero_le _) rfl rfl ?_
  rintro k hk N hN
  by_cases hlt : k < l.length
  · have h1 : (k : Int) < (l.length : Int) := by omega
    have q := fun N => mess_at hlt N
    obtain ⟨o, e⟩ := hearN_lim (O k (by omega)) (by omega) (by rw [C]; omega) l[k] (hl2 _ (List.getElem_mem hlt))
    have hs : hearAll ⟨node, c, []⟩ (l.take (k + 1)) = (hearB (hearAll ⟨node, c, []⟩ (l.take k)) l[k]).2 := by rw [List.take_succ_eq_append_getElem hlt, hearAll_snoc]
    rw [← hs] at e
    simp -implicitDefEqProofs -dsimp (maxSteps := 300000) only [go_sem, ↓q, h1, e]
    refine hN (k + 1) _ (by omega) (by omega) ?_
    simp -implicitDefEqProofs -dsimp only [go_sem, wrap_succ (show k < 9223372036854775807 by omega)]
  · have h1 : ¬ (k : Int) < (l.length : Int) := by omega
    have Ok := O k (by omega)
    have Ck := C k
    generalize hearAll ⟨node, c, []⟩ (l.take k) = bk at Ok Ck
    clear hN hk hl2 O C n1 o1 o2 w d1 d2 d3'
    obtain ⟨x1, e1⟩ := hearN_lim Ok (by omega) (by rw [Ck]; omega) m hm
    have r1 := rightN_lim (b := bk) (by rw [Ck]; omega) m hm
    have O2 := hear_ok Ok hm
    have g1 := getN_lim Ok (by omega) other
    have g2 := getN_lim Ok (by omega) m.id
    have g3 := getN_lim O2 (by omega) m.id
    have g4 := getN_lim O2 (by omega) other
    have s1 := get_small Ok other
    have s2 := get_small Ok m.id
    have hle := hear_len bk m
    have hoth := hear_other bk m other
    have z1 : ¬ (1 : Int) < ((hearB bk m).1.length : Int) := by omega
    have ss := fun H => same_self (h := H) (getB bk other) (by omega)
    have st := fun H => same_self (h := H) (getB bk m.id) (by omega)
    have z0 : (([] : List Mes).length : Int) = 0 := rfl
    cases c4 : rightB bk m with
    | false =>
      have hw := hear_wrong c4
      rw [hw] at e1 g3 g4 z1
      rw [c4] at r1
      dsimp only at e1 g3 g4 z1
      by_cases c5 : other = m.id
      · cases x1 <;> simp -implicitDefEqProofs -dsimp (maxSteps := 300000) only [go_sem, wp_RD, postC_path2, Nat.reduceDiv, h1, e1, r1, g1, g2, g3, g4, st, z0, z1, eq_true c5]
      · cases x1 <;> simp -implicitDefEqProofs -dsimp (maxSteps := 300000) only [go_sem, wp_RD, postC_path2, Nat.reduceDiv, h1, e1, r1, g1, g2, g3, g4, st, ss, z0, z1, eq_false c5]
    | true =>
      rw [c4] at r1
      by_cases c5 : other = m.id
      · generalize (hearB bk m).1 = ms at *
        cases x1 <;> simp -implicitDefEqProofs -dsimp (maxSteps := 300000) only [go_sem, wp_RD, postC_path2, Nat.reduceDiv, h1, e1, r1, g1, g2, g3, g4, z1, eq_true c5]
      · rw [hoth c5] at g4
        generalize (hearB bk m).1 = ms at *
        cases x1 <;> simp -implicitDefEqProofs -dsimp (maxSteps := 300000) only [go_sem, wp_RD, postC_path2, Nat.reduceDiv, h1, e1, r1, g1, g2, g3, g4, ss, z1, eq_false c5]
end Go.DS

/-
  The row AcceptOthers.
-/
namespace Go.Proofs.YtfmhhincdemhdaaGreat.acceptOthers
open Go.ChangeShapes Go.WideShapes Go.ChangeAt Go.RowKit
open Go.ChangeMaps (open_string shut_string)
open Go.DS
set_option linter.unusedVariables false
set_option linter.unusedSimpArgs false

set_option maxRecDepth 100000 in
theorem contract (H : Type) (enc : TypeId × Value → H) (W : World) (base : Nat) (args : Array Value) (ds gs : List (DataW H)) (before : List MemPlace)
    (hval0 : ∀ (j : Nat) t v, Tryz.f5.params[j]? = some t → args[j]? = some v → Value.okWide Tryz.prog W .any base t v)
    (hW : DataW.Whole enc Tryz.prog Tryz.f5.params.toList Rows.acceptOthersSpec.vars false W args.toList ds gs before) (hk : Rows.uptoSmall H (ds ++ gs) = true) :
    Calls Tryz.prog 5 args W fun e W' => ∃ v, e = .returned v ∧ Rows.acceptOthersSpec.post enc Tryz.prog Tryz.f5 false true false false W args v W' := by
  have hval : ∀ (j : Nat) t v, Tryz.f5.params[j]? = some t → args[j]? = some v → Value.okWide Tryz.prog W .any base t v := hval0
  have hW' := hW
  obtain ⟨p, q, hA0, hV, rfl, hfz, hnd⟩ := hW
  have hA : DataW.TrodAll enc Tryz.prog W 0 (fun _ => true) true Tryz.f5.params.toList args.toList ds p := hA0
  rw [Tryz.params5] at hA hval
  obtain ⟨v0, vs0, d0, ds0, p0, q0, hargs, rfl, rfl, h0, r0⟩ := trodAll_cons hA
  obtain ⟨v1, vs1, d1, ds1, p1, q1, rfl, rfl, rfl, h1, r1⟩ := trodAll_cons r0
  obtain ⟨v2, vs2, d2, ds2, p2, q2, rfl, rfl, rfl, h2, r2⟩ := trodAll_cons r1
  obtain ⟨v3, vs3, d3, ds3, p3, q3, rfl, rfl, rfl, h3, r3⟩ := trodAll_cons r2
  obtain ⟨v4, vs4, d4, ds4, p4, q4, rfl, rfl, rfl, h4, r4⟩ := trodAll_cons r3
  obtain ⟨rfl, rfl, rfl⟩ := trodAll_nil r4
  obtain rfl : args = #[v0, v1, v2, v3, v4] := by cases args; simp_all
  obtain ⟨rfl, rfl⟩ := trodVars_none hV
  have lt0 : ∀ x ∈ p0, x.block < W.heap.size := by obtain ⟨m, hm⟩ := h0; exact DataW.trod_lt m _ _ _ hm
  have k0 := h0
  obtain ⟨a0, rfl, rfl, rfl, y0⟩ := open_int Tryz.underlying3 (hval 0 3 v0 rfl rfl) h0
  have lt1 : ∀ x ∈ p1, x.block < W.heap.size := by obtain ⟨m, hm⟩ := h1; exact DataW.trod_lt m _ _ _ hm
  have k1 := h1
  obtain ⟨a1, y1, b1⟩ := arg_con (B := 1048575) (hval 1 24 v1 rfl rfl) h1 (by have hb := of_decide_eq_true hk; simp only [Rows.uptoBulkAll, List.append_nil, List.cons_append, List.nil_append] at hb; omega)
  have lt2 : ∀ x ∈ p2, x.block < W.heap.size := by obtain ⟨m, hm⟩ := h2; exact DataW.trod_lt m _ _ _ hm
  have k2 := h2
  obtain ⟨a2, y2, b2⟩ := arg_mess (B := 1048575) (hval 2 25 v2 rfl rfl) h2 (by have hb := of_decide_eq_true hk; simp only [Rows.uptoBulkAll, List.append_nil, List.cons_append, List.nil_append] at hb; omega)
  have lt3 : ∀ x ∈ p3, x.block < W.heap.size := by obtain ⟨m, hm⟩ := h3; exact DataW.trod_lt m _ _ _ hm
  have k3 := h3
  obtain ⟨a3, y3, b3⟩ := arg_mes (B := 1048575) (hval 3 54 v3 rfl rfl) h3 (by have hb := of_decide_eq_true hk; simp only [Rows.uptoBulkAll, List.append_nil, List.cons_append, List.nil_append] at hb; omega)
  have lt4 : ∀ x ∈ p4, x.block < W.heap.size := by obtain ⟨m, hm⟩ := h4; exact DataW.trod_lt m _ _ _ hm
  have k4 := h4
  obtain ⟨a4, y4, b4⟩ := arg_id (B := 1048575) (hval 4 37 v4 rfl rfl) h4 (by have hb := of_decide_eq_true hk; simp only [Rows.uptoBulkAll, List.append_nil, List.cons_append, List.nil_append] at hb; omega)
  clear hA0 hval0
  have hb := of_decide_eq_true hk
  simp only [Rows.uptoBulkAll, Rows.uptoBulk, List.append_nil] at hb
  refine (Go.DS.start ext_ok (acceptOthers_lim a0 a1 a2 a3 a4) W (vs := #[.int .i64 a0, v1, v2, v3, v4]) (.cons (.sc _) (.cons (y1) (.cons (y2) (.cons (y3) (.cons (y4) (.nil _))))))).mono fun e W' ⟨he, bel⟩ => ?_
  subst he
  exact ⟨_, rfl, _, _, _, [], _, [], hW', trodAll_mk1 (shut_bool Tryz.underlying4 _), (trodAll_cons_mk (Below.trod laidOut' (by kernel_rfl) (of_decide_eq_true (by kernel_rfl)) k0 bel lt0) (trodAll_cons_mk (Below.trod laidOut' (by kernel_rfl) (of_decide_eq_true (by kernel_rfl)) k1 bel lt1) (trodAll_cons_mk (Below.trod laidOut' (by kernel_rfl) (of_decide_eq_true (by kernel_rfl)) k2 bel lt2) (trodAll_cons_mk (Below.trod laidOut' (by kernel_rfl) (of_decide_eq_true (by kernel_rfl)) k3 bel lt3) (trodAll_cons_mk (Below.trod laidOut' (by kernel_rfl) (of_decide_eq_true (by kernel_rfl)) k4 bel lt4) trodAll_mk0))))), rfl, bel.frame _, fun h => by cases h⟩

set_option maxRecDepth 100000 in
theorem lifted (os : Os) (started : os.Started) (H : Type) (enc : TypeId × Value → H) (F : Stop.Interp) :
    ReturnsInHanded {} Tryz.checked os 5 .any ((Rows.OpenSpec.upto Rows.acceptOthersSpec).pre6 enc Tryz.prog Tryz.f5 Rows.acceptOthersUptoRow.domain false) (((Rows.OpenSpec.upto Rows.acceptOthersSpec).at F).post enc Tryz.prog Tryz.f5 false true false false) := by
  refine returnsInHanded_of_cond (C := Tryz.checked) (s := Rows.OpenSpec.upto Rows.acceptOthersSpec) (k := Rows.uptoSmall) rfl own' started (by kernel_rfl) Tryz.func5
    (OpenSpec.witness (enc := enc) (C := Tryz.checked) (s := Rows.OpenSpec.upto Rows.acceptOthersSpec) (k := Rows.uptoSmall) rfl false ⟨#[], #[.int .i64 0, .agg #[.int .i64 0, .slice none 0 0], .slice none 0 0, .agg #[.int .i64 0, .int .i64 0, .int .i64 0, .int .i64 0, .int .i64 0, .int .i64 0, .int .i64 0, .int .i64 0, .int .i64 0, .int .i64 0, .int .i64 0, .int .i64 0, .int .i64 0, .int .i64 0, .int .i64 0, .int .i64 0, .string ByteArray.empty, .string ByteArray.empty, .int .i64 0, .int .i64 0, .int .i64 0, .int .i64 0, .slice none 0 0, .int .i64 0, .slice none 0 0, .slice none 0 0, .slice none 0 0], .agg #[.int .i64 0, .int .i64 0, .int .i64 0]], []⟩ 8 (by kernel_rfl) (by kernel_rfl) (by kernel_rfl)
      (x := ([.lit (.int .i64 0), .agg [.lit (.int .i64 0), .nil], .nil, .agg [.lit (.int .i64 0), .lit (.int .i64 0), .lit (.int .i64 0), .agg [.lit (.int .i64 0), .lit (.int .i64 0), .lit (.int .i64 0)], .agg [.lit (.int .i64 0), .lit (.int .i64 0)], .agg [.lit (.int .i64 0), .agg [.lit (.int .i64 0), .lit (.int .i64 0)], .agg [.lit (.int .i64 0), .lit (.int .i64 0)], .agg [.lit (.int .i64 0), .lit (.int .i64 0), .lit (.int .i64 0), .lit (.string []), .lit (.string []), .lit (.int .i64 0), .lit (.int .i64 0), .lit (.int .i64 0)], .agg [.lit (.int .i64 0), .nil]], .agg [.agg [.lit (.int .i64 0), .nil], .nil, .nil]], .agg [.lit (.int .i64 0), .lit (.int .i64 0), .lit (.int .i64 0)]], [], [])) (by kernel_rfl) rfl (by kernel_rfl)) ?_
  intro W base args ds gs before hval hW _ hk _
  exact contract H enc W base args ds gs before hval hW hk

theorem over : Rows.acceptOthersUptoRow.holds Tryz.pinned (Rows.OpenSpec.upto Rows.acceptOthersSpec) :=
  OpenClaim.holds_of_cond 5 Tryz.f5 rfl rfl rfl rfl rfl rfl rfl ⟨rfl, rfl, rfl, rfl, rfl⟩ rfl rfl rfl rfl rfl (by kernel_rfl) Tryz.func5 (by kernel_rfl)
    (of_decide_eq_true (by kernel_rfl)) (by unfold Func.isWrapper; first | (rw [if_pos (by decide +kernel)]; kernel_rfl) | (rw [if_neg (by decide +kernel)]; exact ⟨rfl, rfl⟩))
    (fun os started H enc _ F => lifted os started H enc F)

theorem proved : Rows.AcceptOthersUptoSaid := over
#print axioms proved
end Go.Proofs.YtfmhhincdemhdaaGreat.acceptOthers
namespace Go.Proofs.YtfmhhincdemhdaaGreat
theorem acceptOthers_holds : Rows.AcceptOthersUptoSaid := acceptOthers.proved
end Go.Proofs.YtfmhhincdemhdaaGreat
