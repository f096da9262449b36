/-
  Walks: the law LeadCommand.
-/
import Derived.Test.YtpbknejlalkfjaaHA
import Derived.WalkKit
import Derived.ProofKit
import Derived.OpenShut
import Derived.ShutString
import Derived.ChangeOld
import Derived.Below
import Derived.JoinedCond
import Derived.Carry
set_option linter.unusedSimpArgs false
set_option linter.unusedVariables false
namespace Go.DS
open Go Go.Proofs
set_option maxRecDepth 100000
set_option linter.unusedVariables false
set_option linter.unusedSimpArgs false
def cd5 : Cd := .seq (R [c0 3 (.new false (.s 0)), c0 4 (.new false (.s 1)), cb 6 (.tk (.c (kb false)))] [2, 3, 4, 11]) (.seq (R [cb 12 (.call none (.c (kf 8)) []), cb 7 (.tk (.s 12))] [2, 3, 4, 7, 11]) (.seq (.seq (R [cb 13 (.mv (.s 7)), cb 14 (.un .not (.s 13))] [2, 3, 4, 7, 11, 14]) (.ite (.s 14) (.seq (R [cb 6 (.tk (.c (kb false)))] [3, 4, 6, 11]) (.ret)) (.skip))) (.seq (.seq (R [c0 15 (.mv (.s 2)), cb 16 (.call none (.c (kf 9)) [(.s 15)]), cb 17 (.mv (.s 16)), cg 18 17 false (.ld true 27 (.s 4)), cg 19 17 false (.bsl 27 [(.s 18)]), ch 20 17 false (.call none (.c (kf 9)) [(.s 19)]), cb 21 (.pick (.s 17) (.c (kb true)) (.s 20)), cb 22 (.mv (.s 21)), cg 23 22 false (.mov 1 (.s 3)), cg 24 22 false (.ld false 3 (.s 23)), cg 25 22 false (.len 1 (.s 24)), ch 26 22 false (.bin .gtr .any (.s 25) (.c (ki .i64 40))), cb 27 (.pick (.s 22) (.c (kb true)) (.s 26))] [2, 3, 4, 7, 11, 27]) (.ite (.s 27) (.seq (R [cb 28 (.mv (.s 7)), cb 6 (.tk (.s 28))] [3, 4, 6, 11]) (.ret)) (.skip))) (.seq (R [c0 29 (.ld true 2 (.s 3)), c0 30 (.mov 1 (.s 4)), c0 31 (.ld false 1 (.s 30)), c0 32 (.mov 3 (.s 4)), c0 33 (.ld true 3 (.s 32)), c0 34 (.mov 8 (.s 4)), c0 35 (.mov 5 (.s 34)), c0 36 (.ld true 8 (.s 35)), c0 37 (.mov 8 (.s 4)), c0 38 (.mov 13 (.s 37)), c0 39 (.ld true 2 (.s 38)), c0 40 (.call none (.c (kf 17)) [(.s 29), (.s 31), (.s 33), (.s 36), (.s 39)]), c0 8 (.tk (.s 40))] [2, 3, 4, 7, 8, 11]) (.seq (.seq (R [c0 41 (.mv (.s 8)), cb 42 (.bin .eql .ptr (.s 41) (.c (.sc (.pointer none))))] [2, 3, 4, 7, 8, 11, 42]) (.ite (.s 42) (.seq (R [cb 6 (.tk (.c (kb false)))] [3, 4, 6, 11]) (.ret)) (.skip))) (.seq (R [cb 9 (.tk (.c (kb false)))] [2, 3, 4, 7, 8, 9, 11]) (.seq (.seq (R [c0 10 (.tk (.c (ki .i64 0)))] [2, 3, 4, 7, 8, 9, 10, 11]) (.block 0 (LP [2, 3, 4, 7, 8, 9, 10, 11] (.seq (.seq (R [c0 43 (.mv (.s 10)), c0 44 (.mv (.s 2)), c0 45 (.len 1 (.s 44)), cb 46 (.bin .lss .any (.s 43) (.s 45))] [2, 3, 4, 7, 8, 9, 10, 11, 46]) (.ite (.s 46) (.skip) (.exit 0))) (.seq (.block 1 (.seq (R [cb 49 (.mv (.s 9)), cb 50 (.mv (.s 49)), cg 51 50 false (.mv (.s 2)), cg 52 50 false (.mv (.s 10)), cg 53 50 false (.ixp 27 (.s 51) (.s 52)), cg 54 50 false (.mov 0 (.s 53)), cg 55 50 false (.ld false 1 (.s 54)), ch 56 50 false (.bin .eql .any (.s 55) (.c (ki .i64 4))), cb 57 (.pick (.s 50) (.c (kb true)) (.s 56)), cb 9 (.tk (.s 57))] [2, 3, 4, 7, 8, 9, 10, 11]) (.seq (R [c0 58 (.mv (.s 8)), c0 59 (.mv (.s 2)), c0 60 (.mv (.s 10)), c0 61 (.ixp 27 (.s 59) (.s 60)), c0 62 (.ld true 27 (.s 61)), cb 63 (.call none (.c (kf 13)) [(.s 58), (.s 62)])] [2, 3, 4, 7, 8, 9, 10, 11]) (.seq (R [c0 64 (.mv (.s 8)), c0 65 (.call none (.c (kf 19)) [(.s 64)]), c0 11 (.new false (.c (.agg [ki .i64 0, ki .i64 0, ki .i64 0, ki .i64 0, ki .i64 0, ki .i64 0, ki .i64 0, ki .i64 0, ki .i64 0, ki .i64 0, ki .i64 0, ki .i64 0, ki .i64 0, ki .i64 0, ki .i64 0, ki .i64 0, ks [], ks [], ki .i64 0, ki .i64 0, ki .i64 0, ki .i64 0, kn 3, ki .i64 0, kn 1, kn 3, kn 6]))), cn (.st 27 (.s 11) (.s 65))] [2, 3, 4, 7, 8, 9, 10, 11]) (.seq (.seq (R [c0 66 (.mv (.s 8)), c0 67 (.call none (.c (kf 12)) [(.s 66)]), cb 68 (.bin .eql .any (.s 67) (.c (ki .i64 4))), cb 69 (.mv (.s 68)), ch 70 69 false (.mv (.s 9)), cb 71 (.pick (.s 69) (.c (kb true)) (.s 70))] [2, 3, 4, 7, 8, 9, 10, 11, 71]) (.ite (.s 71) (.exit 1) (.skip))) (.seq (RD (cd (some 72) false none (.mov 8 (.s 11)) false false [11] :: cd (some 73) false none (.mov 5 (.s 72)) false false [72] :: cd (some 74) false none (.ld true 8 (.s 73)) false false [73] :: cd (some 75) false none (.mov 8 (.s 4)) false false [4] :: cd (some 76) false none (.mov 5 (.s 75)) false false [75] :: cd (some 77) false none (.ld true 8 (.s 76)) false false [76] :: cd (some 78) true none (.bin .neq (.flat [0, 0, 0, 2, 2, 0, 0, 0]) (.s 74) (.s 77)) false false [74, 77] :: cd (some 79) true none (.mv (.s 78)) false false [78] :: cd (some 80) false (some (79, false)) (.mov 3 (.s 11)) false false [11] :: cd (some 81) false (some (79, false)) (.ld true 3 (.s 80)) false false [80] :: cd (some 82) false (some (79, false)) (.mov 3 (.s 4)) false false [4] :: cd (some 83) false (some (79, false)) (.ld true 3 (.s 82)) false false [82] :: cd (some 84) true (some (79, false)) (.bin .neq (.flat [0, 0, 0]) (.s 81) (.s 83)) false false [81, 83] :: cd (some 85) true none (.pick (.s 79) (.c (kb true)) (.s 84)) false false [79, 84] :: cd (some 86) true none (.mv (.s 85)) false false [85] :: cd (some 87) false (some (86, false)) (.mov 6 (.s 11)) false false [11] :: cd (some 88) false (some (86, false)) (.ld true 2 (.s 87)) false false [87] :: cd (some 89) false (some (86, false)) (.mov 3 (.s 4)) false false [4] :: cd (some 90) false (some (86, false)) (.ld true 3 (.s 89)) false false [89] :: cd (some 91) false (some (86, false)) (.call none (.c (kf 20)) [(.s 90)]) false false [90] :: cd (some 92) true (some (86, false)) (.bin .neq (.flat [0, 0]) (.s 88) (.s 91)) false false [88, 91] :: cd (some 93) true none (.pick (.s 86) (.c (kb true)) (.s 92)) false false [86, 92] :: cd (some 94) true none (.mv (.s 93)) false false [93] :: cd (some 95) false (some (94, false)) (.mov 1 (.s 11)) false false [11] :: cd (some 96) false (some (94, false)) (.ld false 1 (.s 95)) false false [95] :: cd (some 97) false (some (94, false)) (.mov 1 (.s 4)) false false [4] :: cd (some 98) false (some (94, false)) (.ld false 1 (.s 97)) false false [97] :: cd (some 99) true (some (94, false)) (.bin .neq .any (.s 96) (.s 98)) false false [96, 98] :: cd (some 100) true none (.pick (.s 94) (.c (kb true)) (.s 99)) false false [94, 99] :: cd (some 101) true none (.mv (.s 100)) false false [100] :: cd (some 102) false (some (101, false)) (.mv (.s 8)) false false [8] :: cd (some 103) false (some (101, false)) (.call none (.c (kf 12)) [(.s 102)]) false false [102] :: cd (some 104) true (some (101, false)) (.bin .eql .any (.s 103) (.c (ki .i64 2))) false false [103] :: cd (some 105) true none (.pick (.s 101) (.c (kb true)) (.s 104)) false false [101, 104] :: []) [2, 3, 4, 7, 8, 9, 10, 11, 105] []) (.ite (.s 105) (.seq (R [cb 6 (.tk (.c (kb false)))] [3, 4, 6, 11]) (.ret)) (.skip)))))))) (R [c0 47 (.mv (.s 10)), c0 48 (.bin .add .any (.s 47) (.c (ki .i64 1))), c0 10 (.tk (.s 48))] [2, 3, 4, 7, 8, 9, 10, 11])))))) (.seq (R [cb 106 (.mv (.s 7)), cb 6 (.tk (.s 106))] [3, 4, 6, 11]) (.ret)))))))))
theorem fun5 : Fun Try.prog cfg 5 107 cd5 [.s 6] := ⟨rfl, Try.f5, _, Try.func5, rfl, rfl, by kernel_rfl, by kernel_rfl⟩
@[go_sem] theorem ok5 : calleeOK Try.prog 5 = true := by kernel_rfl
@[go_sem] theorem ex5 : (cfg.ext 5).isSome = false := rfl
variable {h : DHeap}
theorem mess_one16 (m : Mes) : mess [m] = [mesL m] := rfl
theorem overM_one16 {m : Mes} (h : overM [m] = false) : MesOK m := (overM_ok h).2 m List.mem_cons_self
set_option maxHeartbeats 8000000 in
theorem leadCommand_lim (c : Con) (x : Mes) (l : List Mes) : lim Try.prog cfg 5 [.agg [vi c.epoch, .list false 1 (vnums c.nodes)], mesD x, .list false 27 (mess l)] h = some (vb true, h) := by
  refine lim_funp fun5 rfl (by simp) (by simp [heapFree, heapFree.all, free_vnums, free_mess, free_idr, free_pes, free_pss]) rfl ?_
  delta cd5
  have w := works16_lim (h := [])
  have o1 := over15_lim (h := []) false l
  have o2 := fun own => over15_lim (h := []) own [x]
  rw [mess_one16] at o2
  cases d1 : overM l with
  | true => rw [d1] at o1; simp -implicitDefEqProofs -dsimp (maxSteps := 300000) only [go_sem, w, o1]
  | false =>
  rw [d1] at o1
  cases d2 : overM [x] with
  | true => rw [d2] at o2; simp -implicitDefEqProofs -dsimp (maxSteps := 300000) only [go_sem, w, o1, o2]
  | false =>
  rw [d2] at o2
  by_cases d3 : 40 < c.nodes.length
  · have d3' : (40 : Int) < (c.nodes.length : Int) := by omega
    simp -implicitDefEqProofs -dsimp (maxSteps := 300000) only [go_sem, w, o1, o2, d3']
  have d3' : ¬ (40 : Int) < (c.nodes.length : Int) := by omega
  obtain ⟨hl, hl2⟩ := overM_ok d1
  have hm := overM_one16 d2
  have hmd := hm.deps
  have n1 := newHL_lim c x.frm x.id x.ins.cmd x.ins.att (by omega) (by omega)
  have W0 := newL_W c x.frm x.id x.ins.cmd x.ins.att (by omega) (by omega)
  simp -implicitDefEqProofs -dsimp (maxSteps := 300000) only [go_sem, w, o1, o2, d3', n1]
  have F := ask_first c x.frm x.id x.ins.cmd x.ins.att
  generalize newL c x.frm x.id x.ins.cmd x.ins.att = L0 at *
  clear n1 o1 o2 w
  refine wp_for (σ := Nat × DV) (fun s => [(2, .list false 27 (mess l)), (3, .box [vi c.epoch, .list false 1 (vnums c.nodes)]), (4, .box (mesL x)), (7, vb true), (8, .ptr 0 0), (9, vb ((l.take s.1).any fun m => decide (m.kind = 4))), (10, vi (s.1 : Nat)), (11, s.2)]) (fun s => HL (hearsL L0 (l.take s.1))) (fun s => l.length - s.1) (fun s => s.1 ≤ l.length) (0, .junk) (Nat.zero_le _) rfl rfl ?_
  rintro ⟨k, z⟩ hk N hN
  dsimp only at hk
  by_cases hlt : k < l.length
  case neg =>
    have h1 : ¬ (k : Int) < (l.length : Int) := by omega
    simp -implicitDefEqProofs -dsimp (maxSteps := 300000) only [go_sem, h1]
  have h1 : (k : Int) < (l.length : Int) := by omega
  have q := fun N => mess_at hlt N
  have Wk : LdW 40 (hearsL L0 (l.take k)) := (W0.hears (l.take k) fun m hm => hl2 m (List.mem_of_mem_take hm)).mono (by rw [List.length_take]; omega)
  have e := hearHL_lim Wk (by omega) l[k] (hl2 _ (List.getElem_mem hlt))
  have hs : hearsL L0 (l.take (k + 1)) = (hearL (hearsL L0 (l.take k)) l[k]).2 := by rw [List.take_succ_eq_append_getElem hlt, hearsL_snoc]
  have Wn := Wk.hear (hl2 _ (List.getElem_mem hlt))
  rw [← hs] at e Wn
  have ht : (l.take (k + 1)).any (fun m => decide (m.kind = 4)) = ((l.take k).any (fun m => decide (m.kind = 4)) || decide (l[k].kind = 4)) := by
    rw [List.take_succ_eq_append_getElem hlt, List.any_append]; simp
  have ea := askHL_lim Wn (by omega)
  have ep := phaseHL_lim Wn
  have hN' : ∀ y : DV, N [(2, .list false 27 (mess l)), (3, .box [vi c.epoch, .list false 1 (vnums c.nodes)]), (4, .box (mesL x)), (7, vb true), (8, .ptr 0 0), (9, vb ((l.take (k + 1)).any fun m => decide (m.kind = 4))), (10, vi ((k + 1 : Nat) : Int)), (11, y)] (HL (hearsL L0 (l.take (k + 1)))) := fun y => hN (k + 1, y) _ (by dsimp only; omega) (by dsimp only; omega) rfl
  have F1 := F (l.take (k + 1))
  rw [ht] at hN'
  have hkk : ((l.take k).any fun m => decide (m.kind = 4)) = false → ¬ l[k].kind = 4 → ∀ m ∈ l.take (k + 1), m.kind ≠ 4 := fun h1 h2 m hm => by
    have h3 : ((l.take (k + 1)).any fun m => decide (m.kind = 4)) = false := by rw [ht, h1]; simp [h2]
    have := List.any_eq_false.1 h3 m hm
    simpa using this
  generalize (hearL (hearsL L0 (l.take k)) l[k]).1 = r at e
  generalize ((l.take k).any fun m => decide (m.kind = 4)) = T at *
  generalize hLk : hearsL L0 (l.take (k + 1)) = L1 at *
  generalize askL L1 = y at *
  generalize hearsL L0 (l.take k) = Lk at *
  generalize HL Lk = H0 at *
  generalize HL L1 = H1 at *
  have ws := wrap_succ (show k < 9223372036854775807 by omega)
  by_cases p4 : L1.ph = 4
  · cases T
    · by_cases c4 : l[k].kind = 4
      · rw [decide_eq_true c4] at hN'
        cases r <;> simp -implicitDefEqProofs -dsimp (maxSteps := 300000) only [go_sem, ↓q, h1, e, ea, ep, eq_true p4, eq_true c4, ws] <;> exact hN' _
      · rw [decide_eq_false c4] at hN'
        cases r <;> simp -implicitDefEqProofs -dsimp (maxSteps := 300000) only [go_sem, ↓q, h1, e, ea, ep, eq_true p4, eq_false c4, ws] <;> exact hN' _
    · rw [Bool.true_or] at hN'
      cases r <;> simp -implicitDefEqProofs -dsimp (maxSteps := 300000) only [go_sem, ↓q, h1, e, ea, ep, eq_true p4, ws] <;> exact hN' _
  · cases T
    · by_cases c4 : l[k].kind = 4
      · rw [decide_eq_true c4] at hN'
        cases r <;> simp -implicitDefEqProofs -dsimp (maxSteps := 300000) only [go_sem, ↓q, h1, e, ea, ep, eq_false p4, eq_true c4, ws] <;> exact hN' _
      · rw [decide_eq_false c4] at hN'
        obtain ⟨f1, f2, f3, f4, f5⟩ := F1 (hkk rfl c4) p4
        obtain ⟨yk, yf, yt, yi, yb, ⟨ys, yp, yv, yc, ya⟩, yn⟩ := y
        dsimp only at f1 f2 f3 f4
        subst f1; subst f2; subst f3; subst f4
        have g1 := fun h => firstB_lim (h := h) x.id
        cases r <;> simp -implicitDefEqProofs -dsimp (maxSteps := 300000) only [go_sem, postC_path2, Nat.reduceDiv, ↓q, h1, e, ea, ep, eq_false p4, eq_false c4, eq_false f5, ws, g1] <;> exact hN' _
    · rw [Bool.true_or] at hN'
      cases r <;> simp -implicitDefEqProofs -dsimp (maxSteps := 300000) only [go_sem, ↓q, h1, e, ea, ep, eq_false p4, ws] <;> exact hN' _
end Go.DS

/-
  The row LeadCommand.
-/
namespace Go.Proofs.Ytpbknejlalkfjaa.leadCommand
open Go.ChangeShapes Go.WideShapes Go.ChangeAt Go.RowKit
open Go.ChangeMaps (open_string shut_string)
open Go.DS
set_option linter.unusedVariables false
set_option linter.unusedSimpArgs false

set_option maxRecDepth 100000 in
theorem contract (H : Type) (enc : TypeId × Value → H) (W : World) (base : Nat) (args : Array Value) (ds gs : List (DataW H)) (before : List MemPlace)
    (hval0 : ∀ (j : Nat) t v, Try.f5.params[j]? = some t → args[j]? = some v → Value.okWide Try.prog W .any base t v)
    (hW : DataW.Whole enc Try.prog Try.f5.params.toList Rows.leadCommandSpec.vars false W args.toList ds gs before) (hk : Rows.uptoSmall H (ds ++ gs) = true) :
    Calls Try.prog 5 args W fun e W' => ∃ v, e = .returned v ∧ Rows.leadCommandSpec.post enc Try.prog Try.f5 false true false false W args v W' := by
  have hval : ∀ (j : Nat) t v, Try.f5.params[j]? = some t → args[j]? = some v → Value.okWide Try.prog W .any base t v := hval0
  have hW' := hW
  obtain ⟨p, q, hA0, hV, rfl, hfz, hnd⟩ := hW
  have hA : DataW.TrodAll enc Try.prog W 0 (fun _ => true) true Try.f5.params.toList args.toList ds p := hA0
  rw [Try.params5] at hA hval
  obtain ⟨v0, vs0, d0, ds0, p0, q0, hargs, rfl, rfl, h0, r0⟩ := trodAll_cons hA
  obtain ⟨v1, vs1, d1, ds1, p1, q1, rfl, rfl, rfl, h1, r1⟩ := trodAll_cons r0
  obtain ⟨v2, vs2, d2, ds2, p2, q2, rfl, rfl, rfl, h2, r2⟩ := trodAll_cons r1
  obtain ⟨rfl, rfl, rfl⟩ := trodAll_nil r2
  obtain rfl : args = #[v0, v1, v2] := by cases args; simp_all
  obtain ⟨rfl, rfl⟩ := trodVars_none hV
  have lt0 : ∀ x ∈ p0, x.block < W.heap.size := by obtain ⟨m, hm⟩ := h0; exact DataW.trod_lt m _ _ _ hm
  have k0 := h0
  obtain ⟨a0, y0, b0⟩ := arg_con (B := 1048575) (hval 0 24 v0 rfl rfl) h0 (by have hb := of_decide_eq_true hk; simp only [Rows.uptoBulkAll, List.append_nil, List.cons_append, List.nil_append] at hb; omega)
  have lt1 : ∀ x ∈ p1, x.block < W.heap.size := by obtain ⟨m, hm⟩ := h1; exact DataW.trod_lt m _ _ _ hm
  have k1 := h1
  obtain ⟨a1, y1, b1⟩ := arg_mes (B := 1048575) (hval 1 44 v1 rfl rfl) h1 (by have hb := of_decide_eq_true hk; simp only [Rows.uptoBulkAll, List.append_nil, List.cons_append, List.nil_append] at hb; omega)
  have lt2 : ∀ x ∈ p2, x.block < W.heap.size := by obtain ⟨m, hm⟩ := h2; exact DataW.trod_lt m _ _ _ hm
  have k2 := h2
  obtain ⟨a2, y2, b2⟩ := arg_mess (B := 1048575) (hval 2 45 v2 rfl rfl) h2 (by have hb := of_decide_eq_true hk; simp only [Rows.uptoBulkAll, List.append_nil, List.cons_append, List.nil_append] at hb; omega)
  clear hA0 hval0
  have hb := of_decide_eq_true hk
  simp only [Rows.uptoBulkAll, Rows.uptoBulk, List.append_nil] at hb
  refine (Go.DS.start ext_ok (leadCommand_lim a0 a1 a2) W (vs := #[v0, v1, v2]) (.cons (y0) (.cons (y1) (.cons (y2) (.nil _))))).mono fun e W' ⟨he, bel⟩ => ?_
  subst he
  exact ⟨_, rfl, _, _, _, [], _, [], hW', trodAll_mk1 (shut_bool Try.underlying4 _), (trodAll_cons_mk (Below.trod laidOut' (by kernel_rfl) (of_decide_eq_true (by kernel_rfl)) k0 bel lt0) (trodAll_cons_mk (Below.trod laidOut' (by kernel_rfl) (of_decide_eq_true (by kernel_rfl)) k1 bel lt1) (trodAll_cons_mk (Below.trod laidOut' (by kernel_rfl) (of_decide_eq_true (by kernel_rfl)) k2 bel lt2) trodAll_mk0))), rfl, bel.frame _, fun h => by cases h⟩

set_option maxRecDepth 100000 in
theorem lifted (os : Os) (started : os.Started) (H : Type) (enc : TypeId × Value → H) (F : Stop.Interp) :
    ReturnsInHanded {} Try.checked os 5 .any ((Rows.OpenSpec.upto Rows.leadCommandSpec).pre6 enc Try.prog Try.f5 Rows.leadCommandUptoRow.domain false) (((Rows.OpenSpec.upto Rows.leadCommandSpec).at F).post enc Try.prog Try.f5 false true false false) := by
  refine returnsInHanded_of_cond (C := Try.checked) (s := Rows.OpenSpec.upto Rows.leadCommandSpec) (k := Rows.uptoSmall) rfl own' started (by kernel_rfl) Try.func5
    (OpenSpec.witness (enc := enc) (C := Try.checked) (s := Rows.OpenSpec.upto Rows.leadCommandSpec) (k := Rows.uptoSmall) rfl false ⟨#[], #[.agg #[.int .i64 0, .slice none 0 0], .agg #[.int .i64 0, .int .i64 0, .int .i64 0, .int .i64 0, .int .i64 0, .int .i64 0, .int .i64 0, .int .i64 0, .int .i64 0, .int .i64 0, .int .i64 0, .int .i64 0, .int .i64 0, .int .i64 0, .int .i64 0, .int .i64 0, .string ByteArray.empty, .string ByteArray.empty, .int .i64 0, .int .i64 0, .int .i64 0, .int .i64 0, .slice none 0 0, .int .i64 0, .slice none 0 0, .slice none 0 0, .slice none 0 0], .slice none 0 0], []⟩ 8 (by kernel_rfl) (by kernel_rfl) (by kernel_rfl)
      (x := ([.agg [.lit (.int .i64 0), .nil], .agg [.lit (.int .i64 0), .lit (.int .i64 0), .lit (.int .i64 0), .agg [.lit (.int .i64 0), .lit (.int .i64 0), .lit (.int .i64 0)], .agg [.lit (.int .i64 0), .lit (.int .i64 0)], .agg [.lit (.int .i64 0), .agg [.lit (.int .i64 0), .lit (.int .i64 0)], .agg [.lit (.int .i64 0), .lit (.int .i64 0)], .agg [.lit (.int .i64 0), .lit (.int .i64 0), .lit (.int .i64 0), .lit (.string []), .lit (.string []), .lit (.int .i64 0), .lit (.int .i64 0), .lit (.int .i64 0)], .agg [.lit (.int .i64 0), .nil]], .agg [.agg [.lit (.int .i64 0), .nil], .nil, .nil]], .nil], [], [])) (by kernel_rfl) rfl (by kernel_rfl)) ?_
  intro W base args ds gs before hval hW _ hk _
  exact contract H enc W base args ds gs before hval hW hk

theorem over : Rows.leadCommandUptoRow.holds Try.pinned (Rows.OpenSpec.upto Rows.leadCommandSpec) :=
  OpenClaim.holds_of_cond 5 Try.f5 rfl rfl rfl rfl rfl rfl rfl ⟨rfl, rfl, rfl, rfl, rfl⟩ rfl rfl rfl rfl rfl (by kernel_rfl) Try.func5 (by kernel_rfl)
    (of_decide_eq_true (by kernel_rfl)) (by unfold Func.isWrapper; first | (rw [if_pos (by decide +kernel)]; kernel_rfl) | (rw [if_neg (by decide +kernel)]; exact ⟨rfl, rfl⟩))
    (fun os started H enc _ F => lifted os started H enc F)

theorem proved : Rows.LeadCommandUptoSaid := over
#print axioms proved
end Go.Proofs.Ytpbknejlalkfjaa.leadCommand
namespace Go.Proofs.Ytpbknejlalkfjaa
theorem leadCommand_holds : Rows.LeadCommandUptoSaid := leadCommand.proved
end Go.Proofs.Ytpbknejlalkfjaa
