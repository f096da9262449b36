/-
  Walks: the law LeadTells.
-/
import Derived.Test.YtpbknejlalkfjaaHA
import Derived.WalkKit
import Derived.ProofKit
import Derived.OpenShut
import Derived.ShutString
import Derived.ChangeOld
import Derived.Below
import Derived.JoinedCond
import Derived.Carry
set_option linter.unusedSimpArgs false
set_option linter.unusedVariables false
namespace Go.DS
open Go Go.Proofs
set_option maxRecDepth 100000
set_option linter.unusedVariables false
set_option linter.unusedSimpArgs false
def cd3 : Cd := .seq (R [c0 4 (.new false (.s 0)), c0 5 (.new false (.s 1)), c0 7 (.new false (.s 3)), cb 8 (.tk (.c (kb false)))] [2, 4, 5, 7]) (.seq (R [cb 18 (.call none (.c (kf 8)) []), cb 9 (.tk (.s 18))] [2, 4, 5, 7, 9]) (.seq (.seq (R [cb 19 (.mv (.s 9)), cb 20 (.un .not (.s 19))] [2, 4, 5, 7, 9, 20]) (.ite (.s 20) (.seq (R [cb 8 (.tk (.c (kb false)))] [4, 5, 7, 8]) (.ret)) (.skip))) (.seq (.seq (R [c0 21 (.mv (.s 2)), cb 22 (.call none (.c (kf 9)) [(.s 21)]), cb 23 (.mv (.s 22)), cg 24 23 false (.ld true 27 (.s 5)), cg 25 23 false (.ld true 27 (.s 7)), cg 26 23 false (.bsl 27 [(.s 24), (.s 25)]), ch 27 23 false (.call none (.c (kf 9)) [(.s 26)]), cb 28 (.pick (.s 23) (.c (kb true)) (.s 27)), cb 29 (.mv (.s 28)), cg 30 29 false (.mov 1 (.s 4)), cg 31 29 false (.ld false 3 (.s 30)), cg 32 29 false (.len 1 (.s 31)), ch 33 29 false (.bin .gtr .any (.s 32) (.c (ki .i64 40))), cb 34 (.pick (.s 29) (.c (kb true)) (.s 33))] [2, 4, 5, 7, 9, 34]) (.ite (.s 34) (.seq (R [cb 35 (.mv (.s 9)), cb 8 (.tk (.s 35))] [4, 5, 7, 8]) (.ret)) (.skip))) (.seq (R [c0 36 (.ld true 2 (.s 4)), c0 37 (.mov 1 (.s 5)), c0 38 (.ld false 1 (.s 37)), c0 39 (.mov 3 (.s 5)), c0 40 (.ld true 3 (.s 39)), c0 41 (.mov 6 (.s 5)), c0 42 (.ld true 2 (.s 41)), c0 43 (.call none (.c (kf 10)) [(.s 36), (.s 38), (.s 40), (.s 42)]), c0 10 (.tk (.s 43))] [2, 4, 5, 7, 9, 10]) (.seq (.seq (R [c0 44 (.mv (.s 10)), cb 45 (.bin .eql .ptr (.s 44) (.c (.sc (.pointer none))))] [2, 4, 5, 7, 9, 10, 45]) (.ite (.s 45) (.seq (R [cb 8 (.tk (.c (kb false)))] [4, 5, 7, 8]) (.ret)) (.skip))) (.seq (.seq (R [c0 11 (.tk (.c (ki .i64 0)))] [2, 4, 5, 7, 9, 10, 11]) (.block 0 (LP [2, 4, 5, 7, 9, 10, 11] (.seq (.seq (R [c0 46 (.mv (.s 11)), c0 47 (.mv (.s 2)), c0 48 (.len 1 (.s 47)), cb 49 (.bin .lss .any (.s 46) (.s 48))] [2, 4, 5, 7, 9, 10, 11, 49]) (.ite (.s 49) (.skip) (.exit 0))) (.seq (.block 1 (.seq (R [c0 52 (.mv (.s 10)), c0 53 (.call none (.c (kf 11)) [(.s 52)]), c0 54 (.len 1 (.s 53)), c0 12 (.tk (.s 54))] [2, 4, 5, 7, 9, 10, 11, 12]) (.seq (R [c0 55 (.mv (.s 10)), c0 56 (.call none (.c (kf 12)) [(.s 55)]), c0 13 (.tk (.s 56))] [2, 4, 5, 7, 9, 10, 11, 12, 13]) (.seq (R [c0 57 (.mv (.s 10)), c0 58 (.mv (.s 2)), c0 59 (.mv (.s 11)), c0 60 (.ixp 27 (.s 58) (.s 59)), c0 61 (.ld true 27 (.s 60)), cb 62 (.call none (.c (kf 13)) [(.s 57), (.s 61)]), cb 14 (.tk (.s 62))] [2, 4, 5, 7, 9, 10, 11, 12, 13, 14]) (.seq (.seq (R [cb 63 (.mv (.s 14)), c0 64 (.mv (.s 10)), c0 65 (.call none (.c (kf 12)) [(.s 64)]), c0 66 (.mv (.s 13)), cb 67 (.bin .neq .any (.s 65) (.s 66)), cb 68 (.bin .neq .bool (.s 63) (.s 67)), cb 69 (.mv (.s 68)), cg 70 69 true (.mv (.s 13)), ch 71 69 true (.bin .neq .any (.s 70) (.c (ki .i64 0))), cb 72 (.pick (.s 69) (.s 71) (.c (kb false)))] [2, 4, 5, 7, 9, 10, 11, 12, 13, 14, 72]) (.ite (.s 72) (.seq (R [cb 8 (.tk (.c (kb false)))] [4, 5, 7, 8]) (.ret)) (.skip))) (.seq (R [cb 73 (.mv (.s 14)), cb 74 (.un .not (.s 73)), cb 75 (.mv (.s 74)), cg 76 75 true (.mv (.s 10)), cg 77 75 true (.call none (.c (kf 11)) [(.s 76)]), cg 78 75 true (.len 1 (.s 77)), cg 79 75 true (.mv (.s 12)), ch 80 75 true (.bin .gtr .any (.s 78) (.s 79)), ch 81 75 true (.mv (.s 80)), cg 82 81 false (.mv (.s 10)), cg 83 81 false (.call none (.c (kf 12)) [(.s 82)]), cg 84 81 false (.mv (.s 13)), ch 85 81 false (.bin .neq .any (.s 83) (.s 84)), ch 86 75 true (.pick (.s 81) (.c (kb true)) (.s 85)), cb 87 (.pick (.s 75) (.s 86) (.c (kb false)))] [2, 4, 5, 7, 9, 10, 11, 87]) (.ite (.s 87) (.seq (R [cb 8 (.tk (.c (kb false)))] [4, 5, 7, 8]) (.ret)) (.skip)))))))) (R [c0 50 (.mv (.s 11)), c0 51 (.bin .add .any (.s 50) (.c (ki .i64 1))), c0 11 (.tk (.s 51))] [2, 4, 5, 7, 9, 10, 11])))))) (.seq (R [c0 88 (.mv (.s 10)), c0 89 (.call none (.c (kf 11)) [(.s 88)]), c0 15 (.tk (.s 89))] [4, 5, 7, 9, 10, 15]) (.seq (.seq (R [c0 16 (.tk (.c (ki .i64 0)))] [4, 5, 7, 9, 10, 15, 16]) (.block 2 (LP [4, 5, 7, 9, 10, 15, 16] (.seq (.seq (R [c0 90 (.mv (.s 16)), c0 91 (.mv (.s 15)), c0 92 (.len 1 (.s 91)), cb 93 (.bin .lss .any (.s 90) (.s 92))] [4, 5, 7, 9, 10, 15, 16, 93]) (.ite (.s 93) (.skip) (.exit 2))) (.seq (.block 3 (.seq (RD [cd (some 96) false none (.ld true 2 (.s 4)) false false [4], cd (some 97) false none (.mv (.s 15)) false false [15], cd (some 98) false none (.mv (.s 16)) false false [16], cd (some 99) false none (.ixp 1 (.s 97) (.s 98)) false false [97, 98], cd (some 100) false none (.ld false 1 (.s 99)) false false [99], cd (some 101) true none (.call none (.c (kf 14)) [(.s 96), (.s 100)]) false false [96, 100], cd (some 102) true none (.un .not (.s 101)) false false [101]] [4, 5, 7, 9, 10, 15, 16, 102] []) (.ite (.s 102) (.seq (R [cb 8 (.tk (.c (kb false)))] [4, 5, 7, 8]) (.ret)) (.skip)))) (R [c0 94 (.mv (.s 16)), c0 95 (.bin .add .any (.s 94) (.c (ki .i64 1))), c0 16 (.tk (.s 95))] [4, 5, 7, 9, 10, 15, 16])))))) (.seq (R [c0 103 (.mv (.s 10)), c0 104 (.call none (.c (kf 12)) [(.s 103)]), c0 17 (.tk (.s 104))] [4, 5, 7, 9, 10, 15, 17]) (.seq (.seq (R [c0 105 (.mv (.s 17)), cb 106 (.bin .eql .any (.s 105) (.c (ki .i64 3))), cb 107 (.mv (.s 106)), cg 108 107 false (.mv (.s 17)), ch 109 107 false (.bin .eql .any (.s 108) (.c (ki .i64 4))), cb 110 (.pick (.s 107) (.c (kb true)) (.s 109))] [4, 5, 7, 9, 10, 15, 17, 110]) (.ite (.s 110) (.seq (R (cb 111 (.mv (.s 9)) :: cb 112 (.mv (.s 111)) :: cg 113 112 true (.mv (.s 15)) :: cg 114 112 true (.len 1 (.s 113)) :: ch 115 112 true (.bin .eql .any (.s 114) (.c (ki .i64 0))) :: cb 116 (.pick (.s 112) (.s 115) (.c (kb false))) :: cb 117 (.mv (.s 116)) :: cg 118 117 true (.mv (.s 10)) :: cg 119 117 true (.ld true 27 (.s 7)) :: ch 120 117 true (.call none (.c (kf 13)) [(.s 118), (.s 119)]) :: ch 121 117 true (.un .not (.s 120)) :: cb 122 (.pick (.s 117) (.s 121) (.c (kb false))) :: cb 123 (.mv (.s 122)) :: cg 124 123 true (.mv (.s 10)) :: cg 125 123 true (.call none (.c (kf 12)) [(.s 124)]) :: cg 126 123 true (.mv (.s 17)) :: ch 127 123 true (.bin .eql .any (.s 125) (.s 126)) :: cb 128 (.pick (.s 123) (.s 127) (.c (kb false))) :: cb 129 (.mv (.s 128)) :: cg 130 129 true (.mv (.s 10)) :: ch 131 129 true (.call none (.c (kf 15)) [(.s 130)]) :: ch 132 129 true (.un .not (.s 131)) :: cb 133 (.pick (.s 129) (.s 132) (.c (kb false))) :: cb 8 (.tk (.s 133)) :: []) [4, 5, 7, 8]) (.ret)) (.skip))) (.seq (R (cb 134 (.mv (.s 9)) :: cb 135 (.mv (.s 134)) :: cg 136 135 true (.mov 1 (.s 4)) :: cg 137 135 true (.ld false 3 (.s 136)) :: cg 138 135 true (.len 1 (.s 137)) :: ch 139 135 true (.bin .eql .any (.s 138) (.c (ki .i64 0))) :: ch 140 135 true (.mv (.s 139)) :: cg 141 140 false (.mv (.s 15)) :: cg 142 140 false (.len 1 (.s 141)) :: ch 143 140 false (.bin .gtr .any (.s 142) (.c (ki .i64 0))) :: ch 144 135 true (.pick (.s 140) (.c (kb true)) (.s 143)) :: cb 145 (.pick (.s 135) (.s 144) (.c (kb false))) :: cb 146 (.mv (.s 145)) :: cg 147 146 true (.ld true 2 (.s 4)) :: cg 148 146 true (.mv (.s 15)) :: cg 149 146 true (.call none (.c (kf 16)) [(.s 147), (.s 148)]) :: cg 150 146 true (.mv (.s 15)) :: cg 151 146 true (.len 1 (.s 150)) :: ch 152 146 true (.bin .eql .any (.s 149) (.s 151)) :: cb 153 (.pick (.s 146) (.s 152) (.c (kb false))) :: cb 8 (.tk (.s 153)) :: []) [4, 5, 7, 8]) (.ret))))))))))))
theorem fun3 : Fun Try.prog cfg 3 154 cd3 [.s 8] := ⟨rfl, Try.f3, _, Try.func3, rfl, rfl, by kernel_rfl, by kernel_rfl⟩
@[go_sem] theorem ok3 : calleeOK Try.prog 3 = true := by kernel_rfl
@[go_sem] theorem ex3 : (cfg.ext 3).isSome = false := rfl
variable {h : DHeap}
theorem takeL_tel (c : Con) (node : Int) (id : Id) (b : Bal) : TelP (takeL c node id b) := ⟨rfl, fun _ hn => enough_nil hn rfl⟩
theorem slow_over {L : Ld} (h : L.ph ≠ 0) : slowL L = (false, L) := by unfold slowL; rw [if_neg (fun q => h q.1)]
set_option maxHeartbeats 8000000 in
theorem leadTells_lim (c : Con) (x : Mes) (l : List Mes) (g : Mes) : lim Try.prog cfg 3 [.agg [vi c.epoch, .list false 1 (vnums c.nodes)], mesD x, .list false 27 (mess l), mesD g] h = some (vb true, h) := by
  refine lim_funp fun3 rfl (by simp) (by simp [heapFree, heapFree.all, free_vnums, free_mess, free_idr, free_pes, free_pss]) rfl ?_
  delta cd3
  have w := works16_lim (h := [])
  have o1 := over15_lim (h := []) false l
  have o2 := fun own => over15_lim (h := []) own [x, g]
  rw [show mess [x, g] = [mesL x, mesL g] from rfl] at o2
  cases d1 : overM l with
  | true => rw [d1] at o1; simp -implicitDefEqProofs -dsimp (maxSteps := 300000) only [go_sem, w, o1]
  | false =>
  rw [d1] at o1
  cases d2 : overM [x, g] with
  | true => rw [d2] at o2; simp -implicitDefEqProofs -dsimp (maxSteps := 300000) only [go_sem, w, o1, o2]
  | false =>
  rw [d2] at o2
  by_cases d3 : 40 < c.nodes.length
  · have d3' : (40 : Int) < (c.nodes.length : Int) := by omega
    simp -implicitDefEqProofs -dsimp (maxSteps := 300000) only [go_sem, w, o1, o2, d3']
  have d3' : ¬ (40 : Int) < (c.nodes.length : Int) := by omega
  obtain ⟨hl, hl2⟩ := overM_ok d1
  have hg : MesOK g := (overM_ok d2).2 g (by simp)
  have n1 := takeHL_lim c x.frm x.id x.bal (by omega)
  have W0 := takeL_W c x.frm x.id x.bal (by omega)
  have T0 := takeL_tel c x.frm x.id x.bal
  have C0 : (takeL c x.frm x.id x.bal).con = c := rfl
  simp -implicitDefEqProofs -dsimp (maxSteps := 300000) only [go_sem, w, o1, o2, d3', n1]
  generalize takeL c x.frm x.id x.bal = L0 at *
  clear n1 o1 o2 w
  refine wp_for (σ := Nat) (fun k => [(2, .list false 27 (mess l)), (4, .box [vi c.epoch, .list false 1 (vnums c.nodes)]), (5, .box (mesL x)), (7, .box (mesL g)), (9, vb true), (10, .ptr 0 0), (11, vi (k : Nat))]) (fun k => HL (hearsL L0 (l.take k))) (fun k => l.length - k) (fun k => k ≤ l.length) 0 (Nat.zero_le _) rfl rfl ?_
  intro k hk N hN
  have Wk : LdW 40 (hearsL L0 (l.take k)) := (W0.hears (l.take k) fun m hm => hl2 m (List.mem_of_mem_take hm)).mono (by rw [List.length_take]; omega)
  by_cases hlt : k < l.length
  case pos =>
    have h1 : (k : Int) < (l.length : Int) := by omega
    have q := fun N => mess_at hlt N
    have e := hearHL_lim Wk (by omega) l[k] (hl2 _ (List.getElem_mem hlt))
    have hs : hearsL L0 (l.take (k + 1)) = (hearL (hearsL L0 (l.take k)) l[k]).2 := by rw [List.take_succ_eq_append_getElem hlt, hearsL_snoc]
    have Wn := Wk.hear (hl2 _ (List.getElem_mem hlt))
    have ht := hear_turned (hearsL L0 (l.take k)) l[k]
    have hw := wait_mono (hearsL L0 (l.take k)) l[k]
    rw [← hs] at e Wn ht hw
    have ew := waitHL_lim Wk (by omega)
    have ew1 := waitHL_lim Wn (by omega)
    have ep := phaseHL_lim Wk
    have ep1 := phaseHL_lim Wn
    have hN' : N [(2, .list false 27 (mess l)), (4, .box [vi c.epoch, .list false 1 (vnums c.nodes)]), (5, .box (mesL x)), (7, .box (mesL g)), (9, vb true), (10, .ptr 0 0), (11, vi ((k + 1 : Nat) : Int))] (HL (hearsL L0 (l.take (k + 1)))) := hN (k + 1) _ (by omega) (by omega) rfl
    generalize hearsL L0 (l.take (k + 1)) = L1 at *
    generalize hearsL L0 (l.take k) = Lk at *
    generalize HL Lk = H0 at *
    generalize HL L1 = H1 at *
    have ws := wrap_succ (show k < 9223372036854775807 by omega)
    generalize (hearL Lk l[k]).1 = r at *
    by_cases hph : L1.ph = Lk.ph
    · rw [decide_eq_false (by simpa using hph)] at ht
      subst ht
      have hw' : ¬ ((waitL Lk).length : Int) < ((waitL L1).length : Int) := by have := hw rfl; omega
      simp -implicitDefEqProofs -dsimp (maxSteps := 300000) only [go_sem, ↓q, h1, e, ew, ew1, ep, ep1, eq_true hph, hw', ws]
      exact hN'
    · rw [decide_eq_true hph] at ht
      subst ht
      by_cases hp0 : Lk.ph = 0
      · simp -implicitDefEqProofs -dsimp (maxSteps := 300000) only [go_sem, ↓q, h1, e, ew, ew1, ep, ep1, eq_false hph, eq_true hp0, ws]
        exact hN'
      · simp -implicitDefEqProofs -dsimp (maxSteps := 300000) only [go_sem, ↓q, h1, e, ew, ew1, ep, ep1, eq_false hph, eq_false hp0, ws]
        exact hN'
  have h1 : ¬ (k : Int) < (l.length : Int) := by omega
  have Tk := hearsL_tel T0 (l.take k)
  have Ck : (hearsL L0 (l.take k)).con = c := (hearsL_keeps L0 (l.take k)).1.trans C0
  generalize hearsL L0 (l.take k) = Lz at *
  clear hN hk hl2 T0 C0 W0
  have ew := waitHL_lim Wk (by omega)
  have ep := phaseHL_lim Wk
  have eh := hearHL_lim Wk (by omega) g hg
  have es := slowHL_lim Wk (by omega)
  have win := wait_in Lz
  have hwl : (waitL Lz).length ≤ 40 := by
    have : (waitL Lz).length ≤ Lz.con.nodes.length := by
      unfold waitL; split
      · exact Nat.zero_le _
      · exact List.length_filter_le _ _
    rw [Ck] at this; omega
  rw [Ck] at win
  have hcount := rcount_lim (h := HL Lz) false c (waitL Lz) (by omega) (by omega)
  have wov := wait_over (L := Lz)
  have hov := hear_over (L := Lz)
  have sov := slow_over (L := Lz)
  have wpos := wait_pos Tk
  have cw := count_wait (L := Lz)
  rw [Ck] at wpos cw
  have phov : overL Lz = (decide (Lz.ph = 3) || decide (Lz.ph = 4)) := rfl
  generalize waitL Lz = wl at *
  simp -implicitDefEqProofs -dsimp (maxSteps := 300000) only [go_sem, h1, ew]
  generalize hH : HL Lz = H0 at *
  refine wp_for (σ := Nat) (fun k => [(4, .box [vi c.epoch, .list false 1 (vnums c.nodes)]), (5, .box (mesL x)), (7, .box (mesL g)), (9, vb true), (10, .ptr 0 0), (15, .list true 1 (vnums wl)), (16, vi (k : Nat))]) (fun _ => H0) (fun k => wl.length - k) (fun k => k ≤ wl.length) 0 (Nat.zero_le _) rfl rfl ?_
  intro j hj N hN
  by_cases hlt2 : j < wl.length
  · have f1 : (j : Int) < (wl.length : Int) := by omega
    have e2 := rhasC_lim (h := H0) c.epoch c.nodes wl[j] (by omega)
    rw [decide_eq_true (win _ (List.getElem_mem hlt2))] at e2
    simp -implicitDefEqProofs -dsimp (maxSteps := 300000) only [go_sem, f1, hlt2, e2]
    refine hN (j + 1) _ (by omega) (by omega) ?_
    simp -implicitDefEqProofs -dsimp (maxSteps := 300000) only [go_sem, wrap_succ (show j < 9223372036854775807 by omega)]
  have f1 : ¬ (j : Int) < (wl.length : Int) := by omega
  clear hN hj hlt2 win
  by_cases p3 : Lz.ph = 3
  · have ho : overL Lz = true := by rw [phov, decide_eq_true p3]; rfl
    have e0 := wov ho
    have h0 : (wl.length : Int) = 0 := by rw [e0]; rfl
    rw [hov ho, hH] at eh
    rw [sov (by omega), hH] at es
    simp -implicitDefEqProofs -dsimp (maxSteps := 300000) only [go_sem, f1, ep, eh, es, eq_true p3, eq_true h0]
  by_cases p4 : Lz.ph = 4
  · have ho : overL Lz = true := by rw [phov, decide_eq_true p4]; simp
    have e0 := wov ho
    have h0 : (wl.length : Int) = 0 := by rw [e0]; rfl
    rw [hov ho, hH] at eh
    rw [sov (by omega), hH] at es
    simp -implicitDefEqProofs -dsimp (maxSteps := 300000) only [go_sem, f1, ep, eh, es, eq_false p3, eq_true p4, eq_true h0]
  have ho : overL Lz = false := by rw [phov, decide_eq_false p3, decide_eq_false p4]; rfl
  have k1 := cw ho
  rw [k1] at hcount
  by_cases hz : c.nodes.length = 0
  · have hz' : (c.nodes.length : Int) = 0 := by omega
    simp -implicitDefEqProofs -dsimp (maxSteps := 300000) only [go_sem, f1, ep, eq_false p3, eq_false p4, eq_true hz', hcount]
  · have hz' : ¬ (c.nodes.length : Int) = 0 := by omega
    have k2 := wpos ho (by intro e; rw [e] at hz; exact hz rfl)
    have k3 : (0 : Int) < (wl.length : Int) := by omega
    simp -implicitDefEqProofs -dsimp (maxSteps := 300000) only [go_sem, f1, ep, eq_false p3, eq_false p4, eq_false hz', eq_true k3, hcount]
end Go.DS

/-
  The row LeadTells.
-/
namespace Go.Proofs.Ytpbknejlalkfjaa.leadTells
open Go.ChangeShapes Go.WideShapes Go.ChangeAt Go.RowKit
open Go.ChangeMaps (open_string shut_string)
open Go.DS
set_option linter.unusedVariables false
set_option linter.unusedSimpArgs false

set_option maxRecDepth 100000 in
theorem contract (H : Type) (enc : TypeId × Value → H) (W : World) (base : Nat) (args : Array Value) (ds gs : List (DataW H)) (before : List MemPlace)
    (hval0 : ∀ (j : Nat) t v, Try.f3.params[j]? = some t → args[j]? = some v → Value.okWide Try.prog W .any base t v)
    (hW : DataW.Whole enc Try.prog Try.f3.params.toList Rows.leadTellsSpec.vars false W args.toList ds gs before) (hk : Rows.uptoSmall H (ds ++ gs) = true) :
    Calls Try.prog 3 args W fun e W' => ∃ v, e = .returned v ∧ Rows.leadTellsSpec.post enc Try.prog Try.f3 false true false false W args v W' := by
  have hval : ∀ (j : Nat) t v, Try.f3.params[j]? = some t → args[j]? = some v → Value.okWide Try.prog W .any base t v := hval0
  have hW' := hW
  obtain ⟨p, q, hA0, hV, rfl, hfz, hnd⟩ := hW
  have hA : DataW.TrodAll enc Try.prog W 0 (fun _ => true) true Try.f3.params.toList args.toList ds p := hA0
  rw [Try.params3] at hA hval
  obtain ⟨v0, vs0, d0, ds0, p0, q0, hargs, rfl, rfl, h0, r0⟩ := trodAll_cons hA
  obtain ⟨v1, vs1, d1, ds1, p1, q1, rfl, rfl, rfl, h1, r1⟩ := trodAll_cons r0
  obtain ⟨v2, vs2, d2, ds2, p2, q2, rfl, rfl, rfl, h2, r2⟩ := trodAll_cons r1
  obtain ⟨v3, vs3, d3, ds3, p3, q3, rfl, rfl, rfl, h3, r3⟩ := trodAll_cons r2
  obtain ⟨rfl, rfl, rfl⟩ := trodAll_nil r3
  obtain rfl : args = #[v0, v1, v2, v3] := by cases args; simp_all
  obtain ⟨rfl, rfl⟩ := trodVars_none hV
  have lt0 : ∀ x ∈ p0, x.block < W.heap.size := by obtain ⟨m, hm⟩ := h0; exact DataW.trod_lt m _ _ _ hm
  have k0 := h0
  obtain ⟨a0, y0, b0⟩ := arg_con (B := 1048575) (hval 0 24 v0 rfl rfl) h0 (by have hb := of_decide_eq_true hk; simp only [Rows.uptoBulkAll, List.append_nil, List.cons_append, List.nil_append] at hb; omega)
  have lt1 : ∀ x ∈ p1, x.block < W.heap.size := by obtain ⟨m, hm⟩ := h1; exact DataW.trod_lt m _ _ _ hm
  have k1 := h1
  obtain ⟨a1, y1, b1⟩ := arg_mes (B := 1048575) (hval 1 44 v1 rfl rfl) h1 (by have hb := of_decide_eq_true hk; simp only [Rows.uptoBulkAll, List.append_nil, List.cons_append, List.nil_append] at hb; omega)
  have lt2 : ∀ x ∈ p2, x.block < W.heap.size := by obtain ⟨m, hm⟩ := h2; exact DataW.trod_lt m _ _ _ hm
  have k2 := h2
  obtain ⟨a2, y2, b2⟩ := arg_mess (B := 1048575) (hval 2 45 v2 rfl rfl) h2 (by have hb := of_decide_eq_true hk; simp only [Rows.uptoBulkAll, List.append_nil, List.cons_append, List.nil_append] at hb; omega)
  have lt3 : ∀ x ∈ p3, x.block < W.heap.size := by obtain ⟨m, hm⟩ := h3; exact DataW.trod_lt m _ _ _ hm
  have k3 := h3
  obtain ⟨a3, y3, b3⟩ := arg_mes (B := 1048575) (hval 3 44 v3 rfl rfl) h3 (by have hb := of_decide_eq_true hk; simp only [Rows.uptoBulkAll, List.append_nil, List.cons_append, List.nil_append] at hb; omega)
  clear hA0 hval0
  have hb := of_decide_eq_true hk
  simp only [Rows.uptoBulkAll, Rows.uptoBulk, List.append_nil] at hb
  refine (Go.DS.start ext_ok (leadTells_lim a0 a1 a2 a3) W (vs := #[v0, v1, v2, v3]) (.cons (y0) (.cons (y1) (.cons (y2) (.cons (y3) (.nil _)))))).mono fun e W' ⟨he, bel⟩ => ?_
  subst he
  exact ⟨_, rfl, _, _, _, [], _, [], hW', trodAll_mk1 (shut_bool Try.underlying4 _), (trodAll_cons_mk (Below.trod laidOut' (by kernel_rfl) (of_decide_eq_true (by kernel_rfl)) k0 bel lt0) (trodAll_cons_mk (Below.trod laidOut' (by kernel_rfl) (of_decide_eq_true (by kernel_rfl)) k1 bel lt1) (trodAll_cons_mk (Below.trod laidOut' (by kernel_rfl) (of_decide_eq_true (by kernel_rfl)) k2 bel lt2) (trodAll_cons_mk (Below.trod laidOut' (by kernel_rfl) (of_decide_eq_true (by kernel_rfl)) k3 bel lt3) trodAll_mk0)))), rfl, bel.frame _, fun h => by cases h⟩

set_option maxRecDepth 100000 in
theorem lifted (os : Os) (started : os.Started) (H : Type) (enc : TypeId × Value → H) (F : Stop.Interp) :
    ReturnsInHanded {} Try.checked os 3 .any ((Rows.OpenSpec.upto Rows.leadTellsSpec).pre6 enc Try.prog Try.f3 Rows.leadTellsUptoRow.domain false) (((Rows.OpenSpec.upto Rows.leadTellsSpec).at F).post enc Try.prog Try.f3 false true false false) := by
  refine returnsInHanded_of_cond (C := Try.checked) (s := Rows.OpenSpec.upto Rows.leadTellsSpec) (k := Rows.uptoSmall) rfl own' started (by kernel_rfl) Try.func3
    (OpenSpec.witness (enc := enc) (C := Try.checked) (s := Rows.OpenSpec.upto Rows.leadTellsSpec) (k := Rows.uptoSmall) rfl false ⟨#[], #[.agg #[.int .i64 0, .slice none 0 0], .agg #[.int .i64 0, .int .i64 0, .int .i64 0, .int .i64 0, .int .i64 0, .int .i64 0, .int .i64 0, .int .i64 0, .int .i64 0, .int .i64 0, .int .i64 0, .int .i64 0, .int .i64 0, .int .i64 0, .int .i64 0, .int .i64 0, .string ByteArray.empty, .string ByteArray.empty, .int .i64 0, .int .i64 0, .int .i64 0, .int .i64 0, .slice none 0 0, .int .i64 0, .slice none 0 0, .slice none 0 0, .slice none 0 0], .slice none 0 0, .agg #[.int .i64 0, .int .i64 0, .int .i64 0, .int .i64 0, .int .i64 0, .int .i64 0, .int .i64 0, .int .i64 0, .int .i64 0, .int .i64 0, .int .i64 0, .int .i64 0, .int .i64 0, .int .i64 0, .int .i64 0, .int .i64 0, .string ByteArray.empty, .string ByteArray.empty, .int .i64 0, .int .i64 0, .int .i64 0, .int .i64 0, .slice none 0 0, .int .i64 0, .slice none 0 0, .slice none 0 0, .slice none 0 0]], []⟩ 8 (by kernel_rfl) (by kernel_rfl) (by kernel_rfl)
      (x := ([.agg [.lit (.int .i64 0), .nil], .agg [.lit (.int .i64 0), .lit (.int .i64 0), .lit (.int .i64 0), .agg [.lit (.int .i64 0), .lit (.int .i64 0), .lit (.int .i64 0)], .agg [.lit (.int .i64 0), .lit (.int .i64 0)], .agg [.lit (.int .i64 0), .agg [.lit (.int .i64 0), .lit (.int .i64 0)], .agg [.lit (.int .i64 0), .lit (.int .i64 0)], .agg [.lit (.int .i64 0), .lit (.int .i64 0), .lit (.int .i64 0), .lit (.string []), .lit (.string []), .lit (.int .i64 0), .lit (.int .i64 0), .lit (.int .i64 0)], .agg [.lit (.int .i64 0), .nil]], .agg [.agg [.lit (.int .i64 0), .nil], .nil, .nil]], .nil, .agg [.lit (.int .i64 0), .lit (.int .i64 0), .lit (.int .i64 0), .agg [.lit (.int .i64 0), .lit (.int .i64 0), .lit (.int .i64 0)], .agg [.lit (.int .i64 0), .lit (.int .i64 0)], .agg [.lit (.int .i64 0), .agg [.lit (.int .i64 0), .lit (.int .i64 0)], .agg [.lit (.int .i64 0), .lit (.int .i64 0)], .agg [.lit (.int .i64 0), .lit (.int .i64 0), .lit (.int .i64 0), .lit (.string []), .lit (.string []), .lit (.int .i64 0), .lit (.int .i64 0), .lit (.int .i64 0)], .agg [.lit (.int .i64 0), .nil]], .agg [.agg [.lit (.int .i64 0), .nil], .nil, .nil]]], [], [])) (by kernel_rfl) rfl (by kernel_rfl)) ?_
  intro W base args ds gs before hval hW _ hk _
  exact contract H enc W base args ds gs before hval hW hk

theorem over : Rows.leadTellsUptoRow.holds Try.pinned (Rows.OpenSpec.upto Rows.leadTellsSpec) :=
  OpenClaim.holds_of_cond 3 Try.f3 rfl rfl rfl rfl rfl rfl rfl ⟨rfl, rfl, rfl, rfl, rfl⟩ rfl rfl rfl rfl rfl (by kernel_rfl) Try.func3 (by kernel_rfl)
    (of_decide_eq_true (by kernel_rfl)) (by unfold Func.isWrapper; first | (rw [if_pos (by decide +kernel)]; kernel_rfl) | (rw [if_neg (by decide +kernel)]; exact ⟨rfl, rfl⟩))
    (fun os started H enc _ F => lifted os started H enc F)

theorem proved : Rows.LeadTellsUptoSaid := over
#print axioms proved
end Go.Proofs.Ytpbknejlalkfjaa.leadTells
namespace Go.Proofs.Ytpbknejlalkfjaa
theorem leadTells_holds : Rows.LeadTellsUptoSaid := leadTells.proved
end Go.Proofs.Ytpbknejlalkfjaa
