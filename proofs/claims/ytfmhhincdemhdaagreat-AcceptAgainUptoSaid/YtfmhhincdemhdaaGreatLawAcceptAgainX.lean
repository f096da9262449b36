/-
  Walks: the law AcceptAgain.
-/
import Derived.Test.YtfmhhincdemhdaaGreatH9
import Derived.WalkKit
import Derived.ProofKit
import Derived.OpenShut
import Derived.ShutString
import Derived.ChangeOld
import Derived.Below
import Derived.JoinedCond
import Derived.Carry
set_option linter.unusedSimpArgs false
set_option linter.unusedVariables false
namespace Go.DS
open Go Go.Proofs
set_option maxRecDepth 100000
set_option linter.unusedVariables false
set_option linter.unusedSimpArgs false
def cd7 : Cd := .seq (R [c0 5 (.new false (.s 1)), c0 7 (.new false (.s 3)), cb 8 (.tk (.c (kb false)))] [0, 2, 5, 7, 13, 15]) (.seq (R [cb 16 (.call none (.c (kf 11)) []), cb 9 (.tk (.s 16))] [0, 2, 5, 7, 9, 13, 15]) (.seq (.seq (R [cb 17 (.mv (.s 9)), cb 18 (.un .not (.s 17))] [0, 2, 5, 7, 9, 13, 15, 18]) (.ite (.s 18) (.seq (R [cb 8 (.tk (.c (kb false)))] [5, 7, 8, 13, 15]) (.ret)) (.skip))) (.seq (.seq (R [c0 19 (.mv (.s 2)), cb 20 (.call none (.c (kf 12)) [(.s 19)]), cb 21 (.mv (.s 20)), cg 22 21 false (.ld true 27 (.s 7)), cg 23 21 false (.bsl 27 [(.s 22)]), ch 24 21 false (.call none (.c (kf 12)) [(.s 23)]), cb 25 (.pick (.s 21) (.c (kb true)) (.s 24)), cb 26 (.mv (.s 25)), cg 27 26 false (.mov 1 (.s 5)), cg 28 26 false (.ld false 3 (.s 27)), cg 29 26 false (.len 1 (.s 28)), ch 30 26 false (.bin .gtr .any (.s 29) (.c (ki .i64 40))), cb 31 (.pick (.s 26) (.c (kb true)) (.s 30))] [0, 2, 5, 7, 9, 13, 15, 31]) (.ite (.s 31) (.seq (R [cb 32 (.mv (.s 9)), cb 8 (.tk (.s 32))] [5, 7, 8, 13, 15]) (.ret)) (.skip))) (.seq (R [c0 33 (.mv (.s 0)), c0 34 (.ld true 2 (.s 5)), c0 35 (.call none (.c (kf 13)) [(.s 33), (.s 34)]), c0 10 (.tk (.s 35))] [2, 5, 7, 9, 10, 13, 15]) (.seq (.seq (R [c0 11 (.tk (.c (ki .i64 0)))] [2, 5, 7, 9, 10, 11, 13, 15]) (.block 0 (LP [2, 5, 7, 9, 10, 11, 13, 15] (.seq (.seq (R [c0 36 (.mv (.s 11)), c0 37 (.mv (.s 2)), c0 38 (.len 1 (.s 37)), cb 39 (.bin .lss .any (.s 36) (.s 38))] [2, 5, 7, 9, 10, 11, 13, 15, 39]) (.ite (.s 39) (.skip) (.exit 0))) (.seq (.block 1 (R [c0 42 (.mv (.s 10)), c0 43 (.mv (.s 2)), c0 44 (.mv (.s 11)), c0 45 (.ixp 27 (.s 43) (.s 44)), c0 46 (.ld true 27 (.s 45)), c0 47 (.call none (.c (kf 16)) [(.s 42), (.s 46)])] [2, 5, 7, 9, 10, 11, 13, 15])) (R [c0 40 (.mv (.s 11)), c0 41 (.bin .add .any (.s 40) (.c (ki .i64 1))), c0 11 (.tk (.s 41))] [2, 5, 7, 9, 10, 11, 13, 15])))))) (.seq (R [c0 48 (.mv (.s 10)), c0 49 (.ld true 27 (.s 7)), c0 50 (.call none (.c (kf 16)) [(.s 48), (.s 49)]), c0 12 (.tk (.s 50))] [5, 7, 9, 10, 12, 13, 15]) (.seq (R [c0 51 (.mv (.s 10)), c0 52 (.mov 3 (.s 7)), c0 53 (.ld true 3 (.s 52)), c0 54 (.call none (.c (kf 20)) [(.s 51), (.s 53)]), c0 13 (.new false (.c (.agg [ki .i64 0, ki .i64 0, ki .i64 0, ki .i64 0, ki .i64 0, ki .i64 0, ki .i64 0, ki .i64 0, ks [], ks [], ki .i64 0, ki .i64 0, ki .i64 0, ki .i64 0, kn 3]))), cn (.st 15 (.s 13) (.s 54))] [5, 7, 9, 10, 12, 13, 15]) (.seq (R [c0 55 (.mv (.s 10)), c0 56 (.ld true 27 (.s 7)), c0 57 (.call none (.c (kf 16)) [(.s 55), (.s 56)]), c0 14 (.tk (.s 57))] [5, 7, 9, 10, 12, 13, 14, 15]) (.seq (R [c0 58 (.mv (.s 10)), c0 59 (.mov 3 (.s 7)), c0 60 (.ld true 3 (.s 59)), c0 61 (.call none (.c (kf 20)) [(.s 58), (.s 60)]), c0 15 (.new false (.c (.agg [ki .i64 0, ki .i64 0, ki .i64 0, ki .i64 0, ki .i64 0, ki .i64 0, ki .i64 0, ki .i64 0, ks [], ks [], ki .i64 0, ki .i64 0, ki .i64 0, ki .i64 0, kn 3]))), cn (.st 15 (.s 15) (.s 61))] [5, 7, 9, 12, 13, 14, 15]) (.seq (R [cb 62 (.mv (.s 9)), cb 63 (.mv (.s 62)), cg 64 63 true (.mv (.s 12)), cg 65 63 true (.mv (.s 14)), ch 66 63 true (.call none (.c (kf 18)) [(.s 64), (.s 65)]), cb 67 (.pick (.s 63) (.s 66) (.c (kb false))), cb 68 (.mv (.s 67)), cg 69 68 true (.ld true 15 (.s 13)), cg 70 68 true (.ld true 15 (.s 15)), ch 71 68 true (.call none (.c (kf 19)) [(.s 69), (.s 70)]), cb 72 (.pick (.s 68) (.s 71) (.c (kb false))), cb 8 (.tk (.s 72))] [5, 7, 8, 13, 15]) (.ret)))))))))))
theorem fun7 : Fun Tryz.prog cfg 7 73 cd7 [.s 8] := ⟨rfl, Tryz.f7, _, Tryz.func7, rfl, rfl, by kernel_rfl, by kernel_rfl⟩
@[go_sem] theorem ok7 : calleeOK Tryz.prog 7 = true := by kernel_rfl
@[go_sem] theorem ex7 : (cfg.ext 7).isSome = false := rfl
variable {h : DHeap}
set_option maxHeartbeats 4000000 in
theorem acceptAgain_lim (node : Int) (c : Con) (l : List Mes) (m : Mes) : lim Tryz.prog cfg 7 [vi node, .agg [vi c.epoch, .list false 1 (vnums c.nodes)], .list false 27 (mess l), mesD m] h = some (vb true, h) := by
  refine lim_funp fun7 rfl (by simp) (by simp [heapFree, heapFree.all, free_vnums, free_mess, free_idr, free_pes, free_pss]) rfl ?_
  delta cd7
  have w := works15_lim (h := [])
  have o1 := over15_lim (h := []) false l
  have o2 := over15_lim (h := []) false [m]
  rw [mess_one] at o2
  cases c1 : overM l with
  | true => rw [c1] at o1; simp -implicitDefEqProofs -dsimp (maxSteps := 300000) only [go_sem, w, o1]
  | false =>
  rw [c1] at o1
  cases c2 : overM [m] with
  | true => rw [c2] at o2; simp -implicitDefEqProofs -dsimp (maxSteps := 300000) only [go_sem, w, o1, o2]
  | false =>
  rw [c2] at o2
  by_cases c3 : 40 < c.nodes.length
  · have c3' : (40 : Int) < (c.nodes.length : Int) := by omega
    simp -implicitDefEqProofs -dsimp (maxSteps := 300000) only [go_sem, w, o1, o2, c3']
  have c3' : ¬ (40 : Int) < (c.nodes.length : Int) := by omega
  obtain ⟨hl, hm⟩ := overM_ok c1
  have hm1 := overM_one c2
  have n1 := newN_lim node c (by omega)
  simp -implicitDefEqProofs -dsimp (maxSteps := 300000) only [go_sem, w, o1, o2, c3', n1]
  have O : ∀ k, k ≤ 40 → BkOK 40 (hearAll ⟨node, c, []⟩ (l.take k)) := fun k hk =>
    (hearAll_ok (bkOK_new node c 0) (l.take k) fun x hx => hm x (List.mem_of_mem_take hx)).mono (by rw [List.length_take]; omega)
  have C : ∀ k, (hearAll ⟨node, c, []⟩ (l.take k)).con = c := fun k => (hearAll_con ⟨node, c, []⟩ (l.take k)).1
  refine wp_for (σ := Nat) (fun k => [(2, .list false 27 (mess l)), (5, .box [vi c.epoch, .list false 1 (vnums c.nodes)]), (7, .box (mesL m)), (9, vb true), (10, .ptr 1 0), (11, vi (k : Nat)), (13, .junk), (15, .junk)]) (fun k => HN (hearAll ⟨node, c, []⟩ (l.take k))) (fun k => l.length - k) (fun k => k ≤ l.length) 0 (Nat.zero_le _) rfl rfl ?_
  rintro k hk N hN
  by_cases hlt : k < l.length
  · have h1 : (k : Int) < (l.length : Int) := by omega
    have q := fun N => mess_at hlt N
    obtain ⟨o, e⟩ := hearN_lim (O k (by omega)) (by omega) (by rw [C]; omega) l[k] (hm _ (List.getElem_mem hlt))
    have hs : hearAll ⟨node, c, []⟩ (l.take (k + 1)) = (hearB (hearAll ⟨node, c, []⟩ (l.take k)) l[k]).2 := by rw [List.take_succ_eq_append_getElem hlt, hearAll_snoc]
    rw [← hs] at e
    simp -implicitDefEqProofs -dsimp (maxSteps := 300000) only [go_sem, ↓q, h1, e]
    refine hN (k + 1) _ (by omega) (by omega) ?_
    simp -implicitDefEqProofs -dsimp only [go_sem, wrap_succ (show k < 9223372036854775807 by omega)]
  · have h1 : ¬ (k : Int) < (l.length : Int) := by omega
    have Ok := O k (by omega)
    have Ck := C k
    generalize hearAll ⟨node, c, []⟩ (l.take k) = b at Ok Ck
    obtain ⟨x1, e1⟩ := hearN_lim Ok (by omega) (by rw [Ck]; omega) m hm1
    have O2 := hear_ok Ok hm1
    have C2 : (hearB b m).2.con = c := (hear_con b m).1.trans Ck
    have g2 := getN_lim O2 (by omega) m.id
    obtain ⟨x3, e3⟩ := hearN_lim O2 (by omega) (by rw [C2]; omega) m hm1
    have O3 := hear_ok O2 hm1
    have g4 := getN_lim O3 (by omega) m.id
    obtain ⟨a1, a2⟩ := hear_again b m
    rw [a1] at e3
    rw [a2] at g4
    have sm := msgs_self (h := HN (hearB (hearB b m).2 m).2) false false (hearB b m).1 (by have := hear_len b m; omega) (fun o ho => by have := hear_small Ok hm1 o ho; omega)
    have ss := same_self (h := HN (hearB (hearB b m).2 m).2) (getB (hearB b m).2 m.id) (by have := (get_small O2 m.id).1; omega)
    generalize (hearB b m).1 = ms at *
    generalize HN (hearB (hearB b m).2 m).2 = H3 at *
    generalize HN (hearB b m).2 = H2 at *
    generalize HN b = H1 at *
    generalize getB (hearB b m).2 m.id = gi at *
    cases x1 <;> cases x3 <;> simp -implicitDefEqProofs -dsimp (maxSteps := 300000) only [go_sem, h1, e1, g2, e3, g4, sm, ss]
end Go.DS

/-
  The row AcceptAgain.
-/
namespace Go.Proofs.YtfmhhincdemhdaaGreat.acceptAgain
open Go.ChangeShapes Go.WideShapes Go.ChangeAt Go.RowKit
open Go.ChangeMaps (open_string shut_string)
open Go.DS
set_option linter.unusedVariables false
set_option linter.unusedSimpArgs false

set_option maxRecDepth 100000 in
theorem contract (H : Type) (enc : TypeId × Value → H) (W : World) (base : Nat) (args : Array Value) (ds gs : List (DataW H)) (before : List MemPlace)
    (hval0 : ∀ (j : Nat) t v, Tryz.f7.params[j]? = some t → args[j]? = some v → Value.okWide Tryz.prog W .any base t v)
    (hW : DataW.Whole enc Tryz.prog Tryz.f7.params.toList Rows.acceptAgainSpec.vars false W args.toList ds gs before) (hk : Rows.uptoSmall H (ds ++ gs) = true) :
    Calls Tryz.prog 7 args W fun e W' => ∃ v, e = .returned v ∧ Rows.acceptAgainSpec.post enc Tryz.prog Tryz.f7 false true false false W args v W' := by
  have hval : ∀ (j : Nat) t v, Tryz.f7.params[j]? = some t → args[j]? = some v → Value.okWide Tryz.prog W .any base t v := hval0
  have hW' := hW
  obtain ⟨p, q, hA0, hV, rfl, hfz, hnd⟩ := hW
  have hA : DataW.TrodAll enc Tryz.prog W 0 (fun _ => true) true Tryz.f7.params.toList args.toList ds p := hA0
  rw [Tryz.params7] at hA hval
  obtain ⟨v0, vs0, d0, ds0, p0, q0, hargs, rfl, rfl, h0, r0⟩ := trodAll_cons hA
  obtain ⟨v1, vs1, d1, ds1, p1, q1, rfl, rfl, rfl, h1, r1⟩ := trodAll_cons r0
  obtain ⟨v2, vs2, d2, ds2, p2, q2, rfl, rfl, rfl, h2, r2⟩ := trodAll_cons r1
  obtain ⟨v3, vs3, d3, ds3, p3, q3, rfl, rfl, rfl, h3, r3⟩ := trodAll_cons r2
  obtain ⟨rfl, rfl, rfl⟩ := trodAll_nil r3
  obtain rfl : args = #[v0, v1, v2, v3] := by cases args; simp_all
  obtain ⟨rfl, rfl⟩ := trodVars_none hV
  have lt0 : ∀ x ∈ p0, x.block < W.heap.size := by obtain ⟨m, hm⟩ := h0; exact DataW.trod_lt m _ _ _ hm
  have k0 := h0
  obtain ⟨a0, rfl, rfl, rfl, y0⟩ := open_int Tryz.underlying3 (hval 0 3 v0 rfl rfl) h0
  have lt1 : ∀ x ∈ p1, x.block < W.heap.size := by obtain ⟨m, hm⟩ := h1; exact DataW.trod_lt m _ _ _ hm
  have k1 := h1
  obtain ⟨a1, y1, b1⟩ := arg_con (B := 1048575) (hval 1 24 v1 rfl rfl) h1 (by have hb := of_decide_eq_true hk; simp only [Rows.uptoBulkAll, List.append_nil, List.cons_append, List.nil_append] at hb; omega)
  have lt2 : ∀ x ∈ p2, x.block < W.heap.size := by obtain ⟨m, hm⟩ := h2; exact DataW.trod_lt m _ _ _ hm
  have k2 := h2
  obtain ⟨a2, y2, b2⟩ := arg_mess (B := 1048575) (hval 2 25 v2 rfl rfl) h2 (by have hb := of_decide_eq_true hk; simp only [Rows.uptoBulkAll, List.append_nil, List.cons_append, List.nil_append] at hb; omega)
  have lt3 : ∀ x ∈ p3, x.block < W.heap.size := by obtain ⟨m, hm⟩ := h3; exact DataW.trod_lt m _ _ _ hm
  have k3 := h3
  obtain ⟨a3, y3, b3⟩ := arg_mes (B := 1048575) (hval 3 54 v3 rfl rfl) h3 (by have hb := of_decide_eq_true hk; simp only [Rows.uptoBulkAll, List.append_nil, List.cons_append, List.nil_append] at hb; omega)
  clear hA0 hval0
  have hb := of_decide_eq_true hk
  simp only [Rows.uptoBulkAll, Rows.uptoBulk, List.append_nil] at hb
  refine (Go.DS.start ext_ok (acceptAgain_lim a0 a1 a2 a3) W (vs := #[.int .i64 a0, v1, v2, v3]) (.cons (.sc _) (.cons (y1) (.cons (y2) (.cons (y3) (.nil _)))))).mono fun e W' ⟨he, bel⟩ => ?_
  subst he
  exact ⟨_, rfl, _, _, _, [], _, [], hW', trodAll_mk1 (shut_bool Tryz.underlying4 _), (trodAll_cons_mk (Below.trod laidOut' (by kernel_rfl) (of_decide_eq_true (by kernel_rfl)) k0 bel lt0) (trodAll_cons_mk (Below.trod laidOut' (by kernel_rfl) (of_decide_eq_true (by kernel_rfl)) k1 bel lt1) (trodAll_cons_mk (Below.trod laidOut' (by kernel_rfl) (of_decide_eq_true (by kernel_rfl)) k2 bel lt2) (trodAll_cons_mk (Below.trod laidOut' (by kernel_rfl) (of_decide_eq_true (by kernel_rfl)) k3 bel lt3) trodAll_mk0)))), rfl, bel.frame _, fun h => by cases h⟩

set_option maxRecDepth 100000 in
theorem lifted (os : Os) (started : os.Started) (H : Type) (enc : TypeId × Value → H) (F : Stop.Interp) :
    ReturnsInHanded {} Tryz.checked os 7 .any ((Rows.OpenSpec.upto Rows.acceptAgainSpec).pre6 enc Tryz.prog Tryz.f7 Rows.acceptAgainUptoRow.domain false) (((Rows.OpenSpec.upto Rows.acceptAgainSpec).at F).post enc Tryz.prog Tryz.f7 false true false false) := by
  refine returnsInHanded_of_cond (C := Tryz.checked) (s := Rows.OpenSpec.upto Rows.acceptAgainSpec) (k := Rows.uptoSmall) rfl own' started (by kernel_rfl) Tryz.func7
    (OpenSpec.witness (enc := enc) (C := Tryz.checked) (s := Rows.OpenSpec.upto Rows.acceptAgainSpec) (k := Rows.uptoSmall) rfl false ⟨#[], #[.int .i64 0, .agg #[.int .i64 0, .slice none 0 0], .slice none 0 0, .agg #[.int .i64 0, .int .i64 0, .int .i64 0, .int .i64 0, .int .i64 0, .int .i64 0, .int .i64 0, .int .i64 0, .int .i64 0, .int .i64 0, .int .i64 0, .int .i64 0, .int .i64 0, .int .i64 0, .int .i64 0, .int .i64 0, .string ByteArray.empty, .string ByteArray.empty, .int .i64 0, .int .i64 0, .int .i64 0, .int .i64 0, .slice none 0 0, .int .i64 0, .slice none 0 0, .slice none 0 0, .slice none 0 0]], []⟩ 8 (by kernel_rfl) (by kernel_rfl) (by kernel_rfl)
      (x := ([.lit (.int .i64 0), .agg [.lit (.int .i64 0), .nil], .nil, .agg [.lit (.int .i64 0), .lit (.int .i64 0), .lit (.int .i64 0), .agg [.lit (.int .i64 0), .lit (.int .i64 0), .lit (.int .i64 0)], .agg [.lit (.int .i64 0), .lit (.int .i64 0)], .agg [.lit (.int .i64 0), .agg [.lit (.int .i64 0), .lit (.int .i64 0)], .agg [.lit (.int .i64 0), .lit (.int .i64 0)], .agg [.lit (.int .i64 0), .lit (.int .i64 0), .lit (.int .i64 0), .lit (.string []), .lit (.string []), .lit (.int .i64 0), .lit (.int .i64 0), .lit (.int .i64 0)], .agg [.lit (.int .i64 0), .nil]], .agg [.agg [.lit (.int .i64 0), .nil], .nil, .nil]]], [], [])) (by kernel_rfl) rfl (by kernel_rfl)) ?_
  intro W base args ds gs before hval hW _ hk _
  exact contract H enc W base args ds gs before hval hW hk

theorem over : Rows.acceptAgainUptoRow.holds Tryz.pinned (Rows.OpenSpec.upto Rows.acceptAgainSpec) :=
  OpenClaim.holds_of_cond 7 Tryz.f7 rfl rfl rfl rfl rfl rfl rfl ⟨rfl, rfl, rfl, rfl, rfl⟩ rfl rfl rfl rfl rfl (by kernel_rfl) Tryz.func7 (by kernel_rfl)
    (of_decide_eq_true (by kernel_rfl)) (by unfold Func.isWrapper; first | (rw [if_pos (by decide +kernel)]; kernel_rfl) | (rw [if_neg (by decide +kernel)]; exact ⟨rfl, rfl⟩))
    (fun os started H enc _ F => lifted os started H enc F)

theorem proved : Rows.AcceptAgainUptoSaid := over
#print axioms proved
end Go.Proofs.YtfmhhincdemhdaaGreat.acceptAgain
namespace Go.Proofs.YtfmhhincdemhdaaGreat
theorem acceptAgain_holds : Rows.AcceptAgainUptoSaid := acceptAgain.proved
end Go.Proofs.YtfmhhincdemhdaaGreat
