/-
  Drawn regions, with less to look at.
-/
import Derived.Test.YthncbanajpiadaaGreatH9
import Derived.WalkKit
import Derived.ProofKit
import Derived.OpenShut
import Derived.ShutString
import Derived.ChangeOld
import Derived.Below
import Derived.JoinedCond
import Derived.Carry
set_option linter.unusedSimpArgs false
set_option linter.unusedVariables false
namespace Go.DS
open Go Go.Proofs
set_option maxRecDepth 100000
set_option linter.unusedVariables false
set_option linter.unusedSimpArgs false
/-- What a drawn region asks behind an operation, where nothing is kept. -/
def postC (us : List Nat) (n : Nat) (v : DV) (a : AF) : Bool := match v with
  | .path s' _ => us.any fun s => s == s' || (decide (s < n) && match look s a with | .path s'' _ => s'' == s' | _ => false)
  | .box _ => false
  | _ => true
theorem preA_ff {n d : Nat} {bl : Bool} {g : Option (Nat × Bool)} {o : O} {us : List Nat} {a : AF} : preA n (cd (some d) bl g o false false us) a = (decide (d < n) && quiet (look d a)) := by simp [preA, cd]
theorem postA_ff {n d : Nat} {bl : Bool} {g : Option (Nat × Bool)} {o : O} {us : List Nat} {a a' : AF} {v : DV} : postA n [] (cd (some d) bl g o false false us) v a a' = postC us n v a := by
  cases v <;> first | rfl | simp [postA, postC, cd]
theorem postC_sc {us : List Nat} {n : Nat} {a : AF} {x : Value} : postC us n (.sc x) a = true := rfl
theorem postC_list {us : List Nat} {n : Nat} {a : AF} {b : Bool} {k : Nat} {l : List (List DV)} : postC us n (.list b k l) a = true := rfl
theorem postC_agg {us : List Nat} {n : Nat} {a : AF} {l : List DV} : postC us n (.agg l) a = true := rfl
theorem postC_ptr {us : List Nat} {n : Nat} {a : AF} {i j : Nat} : postC us n (.ptr i j) a = true := rfl
theorem postC_eptr {us : List Nat} {n : Nat} {a : AF} {l : List DV} : postC us n (.eptr l) a = true := rfl
theorem postC_path {s : Nat} {n off : Nat} {a : AF} : postC [s] n (.path s off) a = true := by simp [postC]
theorem postC_path2 {s t : Nat} {n off : Nat} {a : AF} : postC [s] n (.path t off) a = (s == t || (decide (s < n) && match look s a with | .path s'' _ => s'' == t | _ => false)) := by simp [postC]
variable {P : Program} {C : Cfg} {n : Nat} {o : O} {os : List Cop} {a : AF} {h : DHeap} {N : AF → DHeap → Prop} {g : Nat} {w : Bool}
theorem wops_n2 {d : Nat} {bl : Bool} {us : List Nat} : WOps P C n (some []) (cd (some d) bl none o false false us :: os) a h N =
    ((decide (d < n) = true ∧ quiet (look d a) = true) ∧ WO P C n (some d) o a h fun v a' h' => NfP (Nf v) fun v => postC us n v a = true ∧ PutP bl (some d) (Nf v) a' fun a'' => WOps P C n (some []) os a'' h' N) := by
  rw [wops_cd_n]
  simp only [preA_ff, postA_ff, Nf, Bool.and_eq_true]
theorem wops_g2 {d : Nat} {bl : Bool} {us : List Nat} : WOps P C n (some []) (cd (some d) bl (some (g, w)) o false false us :: os) a h N =
    ((decide (d < n) = true ∧ quiet (look d a) = true) ∧ GuP (Nf (look g a)) w (WO P C n (some d) o a h fun v a' h' => NfP (Nf v) fun v => postC us n v a = true ∧ PutP bl (some d) (Nf v) a' fun a'' => WOps P C n (some []) os a'' h' N) (PutP false (some d) (Nf (.sc undef)) a fun a'' => WOps P C n (some []) os a'' h N)) := by
  rw [wops_cd_g]
  simp only [preA_ff, postA_ff, Nf, Bool.and_eq_true]
theorem wp_RD0 {l : List Cop} {k : List Nat} {Q : XD → AF → DHeap → Prop} : WP P C n (RD l k []) a h Q = WOps P C n (some []) l a h fun a' h' => NfP (Nf (keepA (some k) a')) fun a'' => Q .normal a'' h' := by
  rw [wp_RD]
  simp [DrawP]
theorem idxP_cms2 (l : List Cmd) (i : Int) (N : List DV → Prop) : IdxP (cms l) i N = IdxP l (Nf i) fun c => N [vi c.client, vi c.seq, vi c.op, vs c.path, vs c.value, vi c.version, vi c.a, vi c.b] := by rw [idxP_cms]; rfl
attribute [go_sem high] idxP_cms2
attribute [go_sem ↓] wops_n2 wops_g2
attribute [go_sem ↓] postC_sc postC_list postC_agg postC_ptr postC_eptr postC_path
end Go.DS

/-
  Walks: the law SessionOlds.
-/
namespace Go.DS
open Go Go.Proofs
set_option maxRecDepth 100000
set_option linter.unusedVariables false
set_option linter.unusedSimpArgs false
def cd5 : Cd := .seq (R [c0 4 (.new false (.s 1)), c0 5 (.new false (.s 2)), cb 6 (.tk (.c (kb false)))] [0, 4, 5, 12, 13]) (.seq (R [cb 17 (.call none (.c (kf 10)) []), cb 7 (.tk (.s 17))] [0, 4, 5, 7, 12, 13]) (.seq (.seq (R [cb 18 (.mv (.s 7)), cb 19 (.un .not (.s 18))] [0, 4, 5, 7, 12, 13, 19]) (.ite (.s 19) (.seq (R [cb 6 (.tk (.c (kb false)))] [4, 5, 6, 12, 13]) (.ret)) (.skip))) (.seq (.seq (R (c0 20 (.mv (.s 0)) :: cb 21 (.call none (.c (kf 11)) [(.s 20)]) :: cb 22 (.mv (.s 21)) :: cg 23 22 false (.ld true 8 (.s 4)) :: cg 24 22 false (.ld true 8 (.s 5)) :: cg 25 22 false (.bsl 8 [(.s 23), (.s 24)]) :: ch 26 22 false (.call none (.c (kf 11)) [(.s 25)]) :: cb 27 (.pick (.s 22) (.c (kb true)) (.s 26)) :: cb 28 (.mv (.s 27)) :: cg 29 28 false (.ld true 8 (.s 4)) :: ch 30 28 false (.call none (.c (kf 12)) [(.s 29)]) :: ch 31 28 false (.un .not (.s 30)) :: cb 32 (.pick (.s 28) (.c (kb true)) (.s 31)) :: cb 33 (.mv (.s 32)) :: cg 34 33 false (.mov 2 (.s 4)) :: cg 35 33 false (.ld false 1 (.s 34)) :: ch 36 33 false (.bin .eql .any (.s 35) (.c (ki .i64 0))) :: cb 37 (.pick (.s 33) (.c (kb true)) (.s 36)) :: cb 38 (.mv (.s 37)) :: cg 39 38 false (.mov 0 (.s 5)) :: cg 40 38 false (.ld false 1 (.s 39)) :: cg 41 38 false (.mov 0 (.s 4)) :: cg 42 38 false (.ld false 1 (.s 41)) :: ch 43 38 false (.bin .eql .any (.s 40) (.s 42)) :: cb 44 (.pick (.s 38) (.c (kb true)) (.s 43)) :: []) [0, 4, 5, 7, 12, 13, 44]) (.ite (.s 44) (.seq (R [cb 45 (.tk (.s 7)), cb 6 (.tk (.s 45))] [4, 5, 6, 12, 13]) (.ret)) (.skip))) (.seq (R [c0 46 (.call none (.c (kf 13)) []), c0 8 (.tk (.s 46))] [0, 4, 5, 7, 8, 12, 13]) (.seq (R [c0 9 (.tk (.c (ki .i64 0)))] [0, 4, 5, 7, 8, 9, 12, 13]) (.seq (.seq (R [c0 10 (.tk (.c (ki .i64 0)))] [0, 4, 5, 7, 8, 9, 10, 12, 13]) (.block 0 (LP [0, 4, 5, 7, 8, 9, 10, 12, 13] (.seq (.seq (R [c0 47 (.mv (.s 10)), c0 48 (.mv (.s 0)), c0 49 (.len 1 (.s 48)), cb 50 (.bin .lss .any (.s 47) (.s 49))] [0, 4, 5, 7, 8, 9, 10, 12, 13, 50]) (.ite (.s 50) (.skip) (.exit 0))) (.seq (.block 1 (.seq (R [c0 53 (.mv (.s 8)), c0 54 (.mv (.s 0)), c0 55 (.mv (.s 10)), c0 56 (.ixp 8 (.s 54) (.s 55)), c0 57 (.ld true 8 (.s 56)), c0 58 (.bld [ki .i64 0, ks [], ki .i64 0, kz 1] []), c0 59 (.call none (.c (kf 14)) [(.s 53), (.s 57), (.s 58)])] [0, 4, 5, 7, 8, 9, 10, 12, 13]) (.seq (RD (cd (some 60) false none (.mv (.s 0)) false false [0] :: cd (some 61) false none (.mv (.s 10)) false false [10] :: cd (some 62) false none (.ixp 8 (.s 60) (.s 61)) false false [60, 61] :: cd (some 63) false none (.mov 2 (.s 62)) false false [62] :: cd (some 64) false none (.ld false 1 (.s 63)) false false [63] :: cd (some 65) true none (.bin .neq .any (.s 64) (.c (ki .i64 0))) false false [64] :: cd (some 66) true none (.mv (.s 65)) false false [65] :: cd (some 67) false (some (66, true)) (.mv (.s 0)) false false [0] :: cd (some 68) false (some (66, true)) (.mv (.s 10)) false false [10] :: cd (some 69) false (some (66, true)) (.ixp 8 (.s 67) (.s 68)) false false [67, 68] :: cd (some 70) false (some (66, true)) (.ld true 8 (.s 69)) false false [69] :: cd (some 71) true (some (66, true)) (.call none (.c (kf 12)) [(.s 70)]) false false [70] :: cd (some 72) true none (.pick (.s 66) (.s 71) (.c (kb false))) false false [66, 71] :: cd (some 73) true none (.mv (.s 72)) false false [72] :: cd (some 74) false (some (73, true)) (.mv (.s 0)) false false [0] :: cd (some 75) false (some (73, true)) (.mv (.s 10)) false false [10] :: cd (some 76) false (some (73, true)) (.ixp 8 (.s 74) (.s 75)) false false [74, 75] :: cd (some 77) false (some (73, true)) (.mov 0 (.s 76)) false false [76] :: cd (some 78) false (some (73, true)) (.ld false 1 (.s 77)) false false [77] :: cd (some 79) false (some (73, true)) (.mov 0 (.s 4)) false false [4] :: cd (some 80) false (some (73, true)) (.ld false 1 (.s 79)) false false [79] :: cd (some 81) true (some (73, true)) (.bin .eql .any (.s 78) (.s 80)) false false [78, 80] :: cd (some 82) true none (.pick (.s 73) (.s 81) (.c (kb false))) false false [73, 81] :: []) [0, 4, 5, 7, 8, 9, 10, 12, 13, 82] []) (.ite (.s 82) (R [c0 83 (.mv (.s 9)), c0 84 (.mv (.s 0)), c0 85 (.mv (.s 10)), c0 86 (.ixp 8 (.s 84) (.s 85)), c0 87 (.mov 1 (.s 86)), c0 88 (.ld false 1 (.s 87)), c0 89 (.mm true (.s 83) (.s 88)), c0 9 (.tk (.s 89))] [0, 4, 5, 7, 8, 9, 10, 12, 13]) (.skip))))) (R [c0 51 (.mv (.s 10)), c0 52 (.bin .add .any (.s 51) (.c (ki .i64 1))), c0 10 (.tk (.s 52))] [0, 4, 5, 7, 8, 9, 10, 12, 13])))))) (.seq (R [c0 90 (.mv (.s 8)), c0 91 (.call none (.c (kf 15)) [(.s 90)]), c0 11 (.tk (.s 91))] [4, 5, 7, 8, 9, 11, 12, 13]) (.seq (R [c0 92 (.mv (.s 11)), c0 93 (.ld true 8 (.s 5)), c0 94 (.bld [ki .i64 0, ks [], ki .i64 0, kz 1] []), c0 95 (.call none (.c (kf 14)) [(.s 92), (.s 93), (.s 94)])] [4, 5, 7, 8, 9, 11, 12, 13]) (.seq (R [c0 96 (.mv (.s 8)), c0 97 (.ld true 8 (.s 4)), c0 98 (.bld [ki .i64 0, ks [], ki .i64 0, kz 1] []), c0 99 (.call none (.c (kf 14)) [(.s 96), (.s 97), (.s 98)]), c0 12 (.new false (.c (.agg [ki .i64 0, ks [], ki .i64 0, kn 1]))), cn (.st 4 (.s 12) (.s 99))] [4, 5, 7, 8, 9, 11, 12, 13]) (.seq (R [c0 100 (.mv (.s 11)), c0 101 (.ld true 8 (.s 4)), c0 102 (.bld [ki .i64 0, ks [], ki .i64 0, kz 1] []), c0 103 (.call none (.c (kf 14)) [(.s 100), (.s 101), (.s 102)]), c0 13 (.new false (.c (.agg [ki .i64 0, ks [], ki .i64 0, kn 1]))), cn (.st 4 (.s 13) (.s 103))] [4, 5, 7, 8, 9, 12, 13]) (.seq (R [c0 104 (.mv (.s 8)), c0 105 (.call none (.c (kf 20)) [(.s 104)]), c0 14 (.tk (.s 105))] [4, 5, 7, 9, 12, 13, 14]) (.seq (R [c0 15 (.tk (.c (ki .i64 0)))] [4, 5, 7, 9, 12, 13, 14, 15]) (.seq (.seq (R [c0 16 (.tk (.c (ki .i64 0)))] [4, 5, 7, 9, 12, 13, 14, 15, 16]) (.block 2 (LP [4, 5, 7, 9, 12, 13, 14, 15, 16] (.seq (.seq (R [c0 106 (.mv (.s 16)), c0 107 (.mv (.s 14)), c0 108 (.len 1 (.s 107)), cb 109 (.bin .lss .any (.s 106) (.s 108))] [4, 5, 7, 9, 12, 13, 14, 15, 16, 109]) (.ite (.s 109) (.skip) (.exit 2))) (.seq (.block 3 (.seq (RD [cd (some 112) false none (.mv (.s 14)) false false [14], cd (some 113) false none (.mv (.s 16)) false false [16], cd (some 114) false none (.ixp 6 (.s 112) (.s 113)) false false [112, 113], cd (some 115) false none (.mov 0 (.s 114)) false false [114], cd (some 116) false none (.ld false 1 (.s 115)) false false [115], cd (some 117) false none (.mov 0 (.s 4)) false false [4], cd (some 118) false none (.ld false 1 (.s 117)) false false [117], cd (some 119) true none (.bin .eql .any (.s 116) (.s 118)) false false [116, 118]] [4, 5, 7, 9, 12, 13, 14, 15, 16, 119] []) (.ite (.s 119) (R [c0 120 (.mv (.s 14)), c0 121 (.mv (.s 16)), c0 122 (.ixp 6 (.s 120) (.s 121)), c0 123 (.mov 1 (.s 122)), c0 124 (.ldx true false 1 (.s 123)), c0 15 (.tk (.s 124))] [4, 5, 7, 9, 12, 13, 14, 15, 16]) (.skip)))) (R [c0 110 (.mv (.s 16)), c0 111 (.bin .add .any (.s 110) (.c (ki .i64 1))), c0 16 (.tk (.s 111))] [4, 5, 7, 9, 12, 13, 14, 15, 16])))))) (.seq (R (cb 125 (.mv (.s 7)) :: cb 126 (.mv (.s 125)) :: cg 127 126 true (.mv (.s 15)) :: cg 128 126 true (.mv (.s 9)) :: cg 129 126 true (.mov 1 (.s 4)) :: cg 130 126 true (.ld false 1 (.s 129)) :: cg 131 126 true (.mm true (.s 128) (.s 130)) :: ch 132 126 true (.bin .eql .any (.s 127) (.s 131)) :: cb 133 (.pick (.s 126) (.s 132) (.c (kb false))) :: cb 134 (.mv (.s 133)) :: cg 135 134 true (.mov 0 (.s 12)) :: cg 136 134 true (.ld false 1 (.s 135)) :: ch 137 134 true (.bin .eql .any (.s 136) (.c (ki .i64 6))) :: cg 138 134 true (.mv (.s 9)) :: cg 139 134 true (.mov 1 (.s 4)) :: cg 140 134 true (.ld false 1 (.s 139)) :: ch 141 134 true (.bin .gtr .any (.s 138) (.s 140)) :: ch 142 134 true (.bin .eql .bool (.s 137) (.s 141)) :: cb 143 (.pick (.s 134) (.s 142) (.c (kb false))) :: cb 144 (.mv (.s 143)) :: cg 145 144 true (.mov 0 (.s 13)) :: cg 146 144 true (.ld false 1 (.s 145)) :: ch 147 144 true (.bin .eql .any (.s 146) (.c (ki .i64 6))) :: cg 148 144 true (.mv (.s 9)) :: cg 149 144 true (.mov 1 (.s 4)) :: cg 150 144 true (.ld false 1 (.s 149)) :: ch 151 144 true (.bin .gtr .any (.s 148) (.s 150)) :: ch 152 144 true (.bin .eql .bool (.s 147) (.s 151)) :: cb 153 (.pick (.s 144) (.s 152) (.c (kb false))) :: cb 6 (.tk (.s 153)) :: []) [4, 5, 6, 12, 13]) (.ret)))))))))))))))
theorem fun5 : Fun Tryz.prog cfg 5 154 cd5 [.s 6] := ⟨rfl, Tryz.f5, _, Tryz.func5, rfl, rfl, by kernel_rfl, by kernel_rfl⟩
@[go_sem] theorem ok5 : calleeOK Tryz.prog 5 = true := by kernel_rfl
@[go_sem] theorem ex5 : (cfg.ext 5).isSome = false := rfl
variable {h : DHeap}
section
theorem idxP_ses2 (l : Seens) (i : Int) (N : List DV → Prop) : IdxP (ses l) i N = IdxP l (Nf i) fun e => N [vi e.1, vi e.2.1, vi e.2.2.err, vs e.2.2.value, vi e.2.2.version, .list false 1 (ts e.2.2.names)] := by
  unfold ses
  rw [idxP_map]
  rfl
attribute [-go_sem] idxP_ses
attribute [go_sem high] idxP_ses2
attribute [-go_sem] wops_cd_n wops_cd_g wp_RD preA postA idxP_cms
set_option maxHeartbeats 4000000 in
theorem sessionOlds_lim (own : Bool) (l : List Cmd) (c o : Cmd) (hl : l.length ≤ 1048576) (hs : ∀ x ∈ l, x.path.length ≤ 1048576) (hc : c.path.length ≤ 1048576) (ho : o.path.length ≤ 1048576) :
    lim Tryz.prog cfg 5 [.list own 8 (cms l), cmdD c, cmdD o] h = some (vb true, h) := by
  refine lim_funp fun5 rfl (by simp) (by simp [heapFree, heapFree.all, free_cms]) rfl ?_
  delta cd5
  have w9 := works9_lim (h := [])
  have n0 := snew1
  have o1 := over_lim (h := []) false l (by omega)
  have o2 := over_lim (h := []) false [c, o] (by simp)
  simp only [cms, List.map_cons, List.map_nil] at o2
  have v0 := svalid_lim (h := []) c
  cases e1 : overP l with
  | true =>
    rw [e1] at o1
    simp -implicitDefEqProofs -dsimp (maxSteps := 1000000) only [go_sem, wp_RD0, w9, o1, o2, v0, n0]
  | false =>
  rw [e1] at o1
  cases e2 : overP [c, o] with
  | true =>
    rw [e2] at o2
    simp -implicitDefEqProofs -dsimp (maxSteps := 1000000) only [go_sem, wp_RD0, w9, o1, o2, v0, n0]
  | false =>
  rw [e2] at o2
  cases e4 : validB c with
  | false =>
    rw [e4] at v0
    simp -implicitDefEqProofs -dsimp (maxSteps := 1000000) only [go_sem, wp_RD0, w9, o1, o2, v0, n0]
  | true =>
  rw [e4] at v0
  by_cases e5 : c.op = 0
  · simp -implicitDefEqProofs -dsimp (maxSteps := 1000000) only [go_sem, wp_RD0, w9, o1, o2, v0, n0, eq_true e5]
  by_cases e6 : o.client = c.client
  · simp -implicitDefEqProofs -dsimp (maxSteps := 1000000) only [go_sem, wp_RD0, w9, o1, o2, v0, n0, eq_false e5, eq_true e6]
  have hq : l.length ≤ 60 := Decidable.byContradiction fun h1 => by simp [overP, Nat.not_le.1 h1] at e1
  simp -implicitDefEqProofs -dsimp (maxSteps := 1000000) only [go_sem, wp_RD0, w9, o1, o2, v0, n0, eq_false e5, eq_false e6]
  refine wp_for (σ := Nat) (fun k => [(0, .list false 8 (cms l)), (4, .box (cmdL c)), (5, .box (cmdL o)), (7, vb true), (8, .ptr 3 0), (9, vi (lastB c (l.take k))), (10, vi (k : Nat)), (12, .junk), (13, .junk)]) (fun k => h1S (sall (l.take k) 0)) (fun k => l.length - k) (fun k => k ≤ l.length) 0 (Nat.zero_le _) rfl rfl ?_
  rintro k hk N hN
  have Ok := sall_ok l 0 k hk
  have hla := last_all c {} (l.take k)
  by_cases hlt : k < l.length
  · have h1 : (k : Int) < (l.length : Int) := by omega
    have a1 := sa1 Ok (by omega) (by omega) l[k] 0 (hs _ (List.getElem_mem hlt))
    rw [← sall_snoc l 0 k hlt] at a1
    have vj := svalid_lim (h := h1S (sall (l.take (k + 1)) 0)) l[k]
    have hsn : lastB c (l.take (k + 1)) = if sameClient c l[k] = true then max (lastB c (l.take k)) l[k].seq else lastB c (l.take k) := by rw [List.take_succ_eq_append_getElem hlt]; exact lastB_snoc ..
    have hN3 := hN (k + 1)
    simp only [hsn] at hN3
    generalize lastB c (l.take k) = last at *
    generalize h1S (sall (l.take (k + 1)) 0) = H2 at *
    generalize h1S (sall (l.take k) 0) = H1 at *
    simp -implicitDefEqProofs -dsimp (maxSteps := 1000000) only [go_sem, h1, hlt, a1]
    refine wp_aside9 fun Q hQ => ?_
    suffices hq : Q .normal [(0, .list false 8 (cms l)), (4, .box (cmdL c)), (5, .box (cmdL o)), (7, vb true), (8, .ptr 3 0), (9, vi last), (10, vi (k : Nat)), (12, .junk), (13, .junk), (82, vb (sameClient c l[k]))] H2 by
      have hgb : sameClient c l[k] = (decide (l[k].op ≠ 0) && validB l[k] && decide (l[k].client = c.client)) := rfl
      rw [hgb] at hq
      by_cases q1 : l[k].op = 0
      · simp only [q1, ne_eq, not_true_eq_false, decide_false, Bool.false_and] at hq
        simp -implicitDefEqProofs -dsimp (maxSteps := 1000000) only [go_sem, wp_RD0, hlt, eq_true q1, nat_nn9]
        exact hq
      cases q2 : validB l[k] with
      | false =>
        rw [q2] at vj
        simp only [q1, q2, ne_eq, not_false_eq_true, decide_true, Bool.false_and, Bool.and_false] at hq
        simp -implicitDefEqProofs -dsimp (maxSteps := 1000000) only [go_sem, wp_RD0, hlt, eq_false q1, vj, nat_nn9]
        exact hq
      | true =>
      rw [q2] at vj
      by_cases q3 : l[k].client = c.client
      · simp only [q1, q2, q3, ne_eq, not_false_eq_true, decide_true, Bool.and_true] at hq
        simp -implicitDefEqProofs -dsimp (maxSteps := 1000000) only [go_sem, wp_RD0, hlt, eq_false q1, vj, eq_true q3, nat_nn9]
        exact hq
      · simp only [q1, q2, q3, ne_eq, not_false_eq_true, decide_true, decide_false, Bool.and_false] at hq
        simp -implicitDefEqProofs -dsimp (maxSteps := 1000000) only [go_sem, wp_RD0, hlt, eq_false q1, vj, eq_false q3, nat_nn9]
        exact hq
    refine hQ _ _ _ ?_
    generalize sameClient c l[k] = sm at *
    cases sm with
    | true =>
      simp only [if_true] at hN3
      have mmx : mmI true last l[k].seq = max last l[k].seq := by
        simp only [mmI, if_true]
        split <;> omega
      simp -implicitDefEqProofs -dsimp (maxSteps := 1000000) only [go_sem, h1, hlt, cms_get, nat_nn9, mmx]
      refine hN3 _ (by omega) (by omega) ?_
      simp -implicitDefEqProofs -dsimp only [go_sem, wrap_succ (show k < 9223372036854775807 by omega)]
    | false =>
      simp only [Bool.false_eq_true, if_false] at hN3
      simp -implicitDefEqProofs -dsimp (maxSteps := 1000000) only [go_sem, h1]
      refine hN3 _ (by omega) (by omega) ?_
      simp -implicitDefEqProofs -dsimp only [go_sem, wrap_succ (show k < 9223372036854775807 by omega)]
  · have h1 : ¬ (k : Int) < (l.length : Int) := by omega
    change (seenP (sall (l.take k) 0).s c.client).1 = _ at hla
    generalize hx : sall (l.take k) 0 = x at *
    generalize lastB c (l.take k) = last at *
    have XO := sess_ok Ok o (ctl := {}) ⟨Nat.zero_le _, by simp⟩
    have Y := sess_ok Ok c (ctl := {}) ⟨Nat.zero_le _, by simp⟩
    have f0 := scl1 x
    have g1 := sa22 x Ok (by omega) (by omega) o 0 ho
    have g2 := sa21 (sessP x o {}).2 Ok (by omega) (by omega) c 0 hc
    have g3 := sa22 (sessP x c {}).2 XO (by omega) (by omega) c 0 hc
    have g4 := sse21 (sessP (sessP x o {}).2 c {}).2 Y (by omega)
    have i1 := old_iff Ok e4 e5 (ctl := {}) (by simp)
    have i2 := old_iff XO e4 e5 (ctl := {}) (by simp)
    rw [seen_other x e6 {}] at i2
    rw [hla] at i1 i2
    have hsq := last_step hla c {}
    rw [if_pos (same_self e4 e5), ← seqAll_seen Y.nodup] at hsq
    have hSl := sessions_len (sessP x c {}).2.s
    have hYl := Y.len
    generalize sessionsP (sessP x c {}).2.s = E at *
    generalize h2S (sessP x c {}).2 (sessP (sessP x o {}).2 c {}).2 = H5 at *
    generalize h2S (sessP x c {}).2 (sessP x o {}).2 = H4 at *
    generalize h2S x (sessP x o {}).2 = H3 at *
    generalize h2S x x = H2 at *
    generalize h1S x = H1 at *
    generalize (sessP x c {}).1 = a at *
    generalize (sessP (sessP x o {}).2 c {}).1 = b at *
    generalize (sessP x o {}).1 = r at *
    simp -implicitDefEqProofs -dsimp (maxSteps := 1000000) only [go_sem, h1, f0, g1, g2, g3, g4]
    refine wp_for (σ := Nat) (fun j => [(4, .box (cmdL c)), (5, .box (cmdL o)), (7, vb true), (9, vi last), (12, .box [vi a.err, vs a.value, vi a.version, .list false 1 (ts a.names)]), (13, .box [vi b.err, vs b.value, vi b.version, .list false 1 (ts b.names)]), (14, .list true 6 (ses E)), (15, vi (seqAll c.client (E.take j))), (16, vi (j : Nat))]) (fun _ => H5) (fun j => E.length - j) (fun j => j ≤ E.length) 0 (Nat.zero_le _) rfl rfl ?_
    rintro j hj N2 hN2
    by_cases hlt2 : j < E.length
    · have h2 : (j : Int) < (E.length : Int) := by omega
      have hsn : seqAll c.client (E.take (j + 1)) = if E[j].1 = c.client then E[j].2.1 else seqAll c.client (E.take j) := by rw [List.take_succ_eq_append_getElem hlt2]; exact seqAll_snoc ..
      have hN3 := hN2 (j + 1)
      simp only [hsn] at hN3
      by_cases q : E[j].1 = c.client
      · rw [if_pos q] at hN3
        simp -implicitDefEqProofs -dsimp (maxSteps := 1000000) only [go_sem, ↓wp_RD0, h2, hlt2, eq_true q, nat_nn9]
        refine hN3 _ (by omega) (by omega) ?_
        simp -implicitDefEqProofs -dsimp only [go_sem, wrap_succ (show j < 9223372036854775807 by omega)]
      · rw [if_neg q] at hN3
        simp -implicitDefEqProofs -dsimp (maxSteps := 1000000) only [go_sem, ↓wp_RD0, h2, hlt2, eq_false q, nat_nn9]
        refine hN3 _ (by omega) (by omega) ?_
        simp -implicitDefEqProofs -dsimp only [go_sem, wrap_succ (show j < 9223372036854775807 by omega)]
    · have h2 : ¬ (j : Int) < (E.length : Int) := by omega
      have hjl : j = E.length := by omega
      subst hjl
      rw [List.take_length, hsq]
      have mm : mmI true last c.seq = max last c.seq := by
        simp only [mmI, if_true]
        split <;> omega
      by_cases q : c.seq < last
      · simp -implicitDefEqProofs -dsimp (maxSteps := 1000000) only [go_sem, wp_RD0, h2, mm, eq_true q, eq_true (i1.2 q), eq_true (i2.2 q)]
      · simp -implicitDefEqProofs -dsimp (maxSteps := 1000000) only [go_sem, wp_RD0, h2, mm, eq_false q, eq_false (fun h => q (i1.1 h)), eq_false (fun h => q (i2.1 h))]
end
end Go.DS

/-
  The row SessionOlds.
-/
namespace Go.Proofs.YthncbanajpiadaaGreat.sessionOlds
open Go.ChangeShapes Go.WideShapes Go.ChangeAt Go.RowKit
open Go.ChangeMaps (open_string shut_string)
open Go.DS
set_option linter.unusedVariables false
set_option linter.unusedSimpArgs false

set_option maxRecDepth 100000 in
theorem contract (H : Type) (enc : TypeId × Value → H) (W : World) (base : Nat) (args : Array Value) (ds gs : List (DataW H)) (before : List MemPlace)
    (hval0 : ∀ (j : Nat) t v, Tryz.f5.params[j]? = some t → args[j]? = some v → Value.okWide Tryz.prog W .any base t v)
    (hW : DataW.Whole enc Tryz.prog Tryz.f5.params.toList Rows.sessionOldsSpec.vars false W args.toList ds gs before) (hk : Rows.uptoSmall H (ds ++ gs) = true) :
    Calls Tryz.prog 5 args W fun e W' => ∃ v, e = .returned v ∧ Rows.sessionOldsSpec.post enc Tryz.prog Tryz.f5 false true false false W args v W' := by
  have hval : ∀ (j : Nat) t v, Tryz.f5.params[j]? = some t → args[j]? = some v → Value.okWide Tryz.prog W .any base t v := hval0
  have hW' := hW
  obtain ⟨p, q, hA0, hV, rfl, hfz, hnd⟩ := hW
  have hA : DataW.TrodAll enc Tryz.prog W 0 (fun _ => true) true Tryz.f5.params.toList args.toList ds p := hA0
  rw [Tryz.params5] at hA hval
  obtain ⟨v0, vs0, d0, ds0, p0, q0, hargs, rfl, rfl, h0, r0⟩ := trodAll_cons hA
  obtain ⟨v1, vs1, d1, ds1, p1, q1, rfl, rfl, rfl, h1, r1⟩ := trodAll_cons r0
  obtain ⟨v2, vs2, d2, ds2, p2, q2, rfl, rfl, rfl, h2, r2⟩ := trodAll_cons r1
  obtain ⟨rfl, rfl, rfl⟩ := trodAll_nil r2
  obtain rfl : args = #[v0, v1, v2] := by cases args; simp_all
  obtain ⟨rfl, rfl⟩ := trodVars_none hV
  have lt0 : ∀ x ∈ p0, x.block < W.heap.size := by obtain ⟨m, hm⟩ := h0; exact DataW.trod_lt m _ _ _ hm
  have k0 := h0
  obtain ⟨a0, y0, b0⟩ := arg_cmds (B := 1048575) (hval 0 22 v0 rfl rfl) h0 (by have hb := of_decide_eq_true hk; simp only [Rows.uptoBulkAll, List.append_nil, List.cons_append, List.nil_append] at hb; omega)
  have lt1 : ∀ x ∈ p1, x.block < W.heap.size := by obtain ⟨m, hm⟩ := h1; exact DataW.trod_lt m _ _ _ hm
  have k1 := h1
  obtain ⟨a1, y1, b1⟩ := arg_cmd (B := 1048575) (hval 1 25 v1 rfl rfl) h1 (by have hb := of_decide_eq_true hk; simp only [Rows.uptoBulkAll, List.append_nil, List.cons_append, List.nil_append] at hb; omega)
  have lt2 : ∀ x ∈ p2, x.block < W.heap.size := by obtain ⟨m, hm⟩ := h2; exact DataW.trod_lt m _ _ _ hm
  have k2 := h2
  obtain ⟨a2, y2, b2⟩ := arg_cmd (B := 1048575) (hval 2 25 v2 rfl rfl) h2 (by have hb := of_decide_eq_true hk; simp only [Rows.uptoBulkAll, List.append_nil, List.cons_append, List.nil_append] at hb; omega)
  clear hA0 hval0
  have hb := of_decide_eq_true hk
  simp only [Rows.uptoBulkAll, Rows.uptoBulk, List.append_nil] at hb
  refine (Go.DS.start ext_ok (sessionOlds_lim false a0 a1 a2 (by have := b0.1; omega) (fun x hx => by have := (b0.2 x hx).path; omega) (by have := b1.path; omega) (by have := b2.path; omega)) W (vs := #[v0, v1, v2]) (.cons (y0) (.cons (y1) (.cons (y2) (.nil _))))).mono fun e W' ⟨he, bel⟩ => ?_
  subst he
  exact ⟨_, rfl, _, _, _, [], _, [], hW', trodAll_mk1 (shut_bool Tryz.underlying4 _), (trodAll_cons_mk (Below.trod laidOut' (by kernel_rfl) (of_decide_eq_true (by kernel_rfl)) k0 bel lt0) (trodAll_cons_mk (Below.trod laidOut' (by kernel_rfl) (of_decide_eq_true (by kernel_rfl)) k1 bel lt1) (trodAll_cons_mk (Below.trod laidOut' (by kernel_rfl) (of_decide_eq_true (by kernel_rfl)) k2 bel lt2) trodAll_mk0))), rfl, bel.frame _, fun h => by cases h⟩

set_option maxRecDepth 100000 in
theorem lifted (os : Os) (started : os.Started) (H : Type) (enc : TypeId × Value → H) (F : Stop.Interp) :
    ReturnsInHanded {} Tryz.checked os 5 .any ((Rows.OpenSpec.upto Rows.sessionOldsSpec).pre6 enc Tryz.prog Tryz.f5 Rows.sessionOldsUptoRow.domain false) (((Rows.OpenSpec.upto Rows.sessionOldsSpec).at F).post enc Tryz.prog Tryz.f5 false true false false) := by
  refine returnsInHanded_of_cond (C := Tryz.checked) (s := Rows.OpenSpec.upto Rows.sessionOldsSpec) (k := Rows.uptoSmall) rfl own' started (by kernel_rfl) Tryz.func5
    (OpenSpec.witness (enc := enc) (C := Tryz.checked) (s := Rows.OpenSpec.upto Rows.sessionOldsSpec) (k := Rows.uptoSmall) rfl false ⟨#[], #[.slice none 0 0, .agg #[.int .i64 0, .int .i64 0, .int .i64 0, .string ByteArray.empty, .string ByteArray.empty, .int .i64 0, .int .i64 0, .int .i64 0], .agg #[.int .i64 0, .int .i64 0, .int .i64 0, .string ByteArray.empty, .string ByteArray.empty, .int .i64 0, .int .i64 0, .int .i64 0]], []⟩ 8 (by kernel_rfl) (by kernel_rfl) (by kernel_rfl)
      (x := ([.nil, .agg [.lit (.int .i64 0), .lit (.int .i64 0), .lit (.int .i64 0), .lit (.string []), .lit (.string []), .lit (.int .i64 0), .lit (.int .i64 0), .lit (.int .i64 0)], .agg [.lit (.int .i64 0), .lit (.int .i64 0), .lit (.int .i64 0), .lit (.string []), .lit (.string []), .lit (.int .i64 0), .lit (.int .i64 0), .lit (.int .i64 0)]], [], [])) (by kernel_rfl) rfl (by kernel_rfl)) ?_
  intro W base args ds gs before hval hW _ hk _
  exact contract H enc W base args ds gs before hval hW hk

theorem over : Rows.sessionOldsUptoRow.holds Tryz.pinned (Rows.OpenSpec.upto Rows.sessionOldsSpec) :=
  OpenClaim.holds_of_cond 5 Tryz.f5 rfl rfl rfl rfl rfl rfl rfl ⟨rfl, rfl, rfl, rfl, rfl⟩ rfl rfl rfl rfl rfl (by kernel_rfl) Tryz.func5 (by kernel_rfl)
    (of_decide_eq_true (by kernel_rfl)) (by unfold Func.isWrapper; first | (rw [if_pos (by decide +kernel)]; kernel_rfl) | (rw [if_neg (by decide +kernel)]; exact ⟨rfl, rfl⟩))
    (fun os started H enc _ F => lifted os started H enc F)

theorem proved : Rows.SessionOldsUptoSaid := over
#print axioms proved
end Go.Proofs.YthncbanajpiadaaGreat.sessionOlds
namespace Go.Proofs.YthncbanajpiadaaGreat
theorem sessionOlds_holds : Rows.SessionOldsUptoSaid := sessionOlds.proved
end Go.Proofs.YthncbanajpiadaaGreat
