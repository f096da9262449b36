/-
  Drawn regions, with less to look at.
-/
import Derived.Test.YthncbanajpiadaaGreatH9
import Derived.WalkKit
import Derived.ProofKit
import Derived.OpenShut
import Derived.ShutString
import Derived.ChangeOld
import Derived.Below
import Derived.JoinedCond
import Derived.Carry
set_option linter.unusedSimpArgs false
set_option linter.unusedVariables false
namespace Go.DS
open Go Go.Proofs
set_option maxRecDepth 100000
set_option linter.unusedVariables false
set_option linter.unusedSimpArgs false
/-- What a drawn region asks behind an operation, where nothing is kept. -/
def postC (us : List Nat) (n : Nat) (v : DV) (a : AF) : Bool := match v with
  | .path s' _ => us.any fun s => s == s' || (decide (s < n) && match look s a with | .path s'' _ => s'' == s' | _ => false)
  | .box _ => false
  | _ => true
theorem preA_ff {n d : Nat} {bl : Bool} {g : Option (Nat × Bool)} {o : O} {us : List Nat} {a : AF} : preA n (cd (some d) bl g o false false us) a = (decide (d < n) && quiet (look d a)) := by simp [preA, cd]
theorem postA_ff {n d : Nat} {bl : Bool} {g : Option (Nat × Bool)} {o : O} {us : List Nat} {a a' : AF} {v : DV} : postA n [] (cd (some d) bl g o false false us) v a a' = postC us n v a := by
  cases v <;> first | rfl | simp [postA, postC, cd]
theorem postC_sc {us : List Nat} {n : Nat} {a : AF} {x : Value} : postC us n (.sc x) a = true := rfl
theorem postC_list {us : List Nat} {n : Nat} {a : AF} {b : Bool} {k : Nat} {l : List (List DV)} : postC us n (.list b k l) a = true := rfl
theorem postC_agg {us : List Nat} {n : Nat} {a : AF} {l : List DV} : postC us n (.agg l) a = true := rfl
theorem postC_ptr {us : List Nat} {n : Nat} {a : AF} {i j : Nat} : postC us n (.ptr i j) a = true := rfl
theorem postC_eptr {us : List Nat} {n : Nat} {a : AF} {l : List DV} : postC us n (.eptr l) a = true := rfl
theorem postC_path {s : Nat} {n off : Nat} {a : AF} : postC [s] n (.path s off) a = true := by simp [postC]
theorem postC_path2 {s t : Nat} {n off : Nat} {a : AF} : postC [s] n (.path t off) a = (s == t || (decide (s < n) && match look s a with | .path s'' _ => s'' == t | _ => false)) := by simp [postC]
variable {P : Program} {C : Cfg} {n : Nat} {o : O} {os : List Cop} {a : AF} {h : DHeap} {N : AF → DHeap → Prop} {g : Nat} {w : Bool}
theorem wops_n2 {d : Nat} {bl : Bool} {us : List Nat} : WOps P C n (some []) (cd (some d) bl none o false false us :: os) a h N =
    ((decide (d < n) = true ∧ quiet (look d a) = true) ∧ WO P C n (some d) o a h fun v a' h' => NfP (Nf v) fun v => postC us n v a = true ∧ PutP bl (some d) (Nf v) a' fun a'' => WOps P C n (some []) os a'' h' N) := by
  rw [wops_cd_n]
  simp only [preA_ff, postA_ff, Nf, Bool.and_eq_true]
theorem wops_g2 {d : Nat} {bl : Bool} {us : List Nat} : WOps P C n (some []) (cd (some d) bl (some (g, w)) o false false us :: os) a h N =
    ((decide (d < n) = true ∧ quiet (look d a) = true) ∧ GuP (Nf (look g a)) w (WO P C n (some d) o a h fun v a' h' => NfP (Nf v) fun v => postC us n v a = true ∧ PutP bl (some d) (Nf v) a' fun a'' => WOps P C n (some []) os a'' h' N) (PutP false (some d) (Nf (.sc undef)) a fun a'' => WOps P C n (some []) os a'' h N)) := by
  rw [wops_cd_g]
  simp only [preA_ff, postA_ff, Nf, Bool.and_eq_true]
theorem wp_RD0 {l : List Cop} {k : List Nat} {Q : XD → AF → DHeap → Prop} : WP P C n (RD l k []) a h Q = WOps P C n (some []) l a h fun a' h' => NfP (Nf (keepA (some k) a')) fun a'' => Q .normal a'' h' := by
  rw [wp_RD]
  simp [DrawP]
theorem idxP_cms2 (l : List Cmd) (i : Int) (N : List DV → Prop) : IdxP (cms l) i N = IdxP l (Nf i) fun c => N [vi c.client, vi c.seq, vi c.op, vs c.path, vs c.value, vi c.version, vi c.a, vi c.b] := by rw [idxP_cms]; rfl
attribute [go_sem high] idxP_cms2
attribute [go_sem ↓] wops_n2 wops_g2
attribute [go_sem ↓] postC_sc postC_list postC_agg postC_ptr postC_eptr postC_path
end Go.DS

/-
  Walks: the law SessionOnce.
-/
namespace Go.DS
open Go Go.Proofs
set_option maxRecDepth 100000
set_option linter.unusedVariables false
set_option linter.unusedSimpArgs false
def cd3 : Cd := .seq (R [c0 4 (.new false (.s 1)), cb 6 (.tk (.c (kb false)))] [0, 2, 4, 10, 14]) (.seq (R [cb 16 (.call none (.c (kf 10)) []), cb 7 (.tk (.s 16))] [0, 2, 4, 7, 10, 14]) (.seq (.seq (R [cb 17 (.mv (.s 7)), cb 18 (.un .not (.s 17))] [0, 2, 4, 7, 10, 14, 18]) (.ite (.s 18) (.seq (R [cb 6 (.tk (.c (kb false)))] [4, 6, 10, 14]) (.ret)) (.skip))) (.seq (.seq (R (c0 19 (.mv (.s 0)) :: cb 20 (.call none (.c (kf 11)) [(.s 19)]) :: cb 21 (.mv (.s 20)) :: cg 22 21 false (.mv (.s 2)) :: ch 23 21 false (.call none (.c (kf 11)) [(.s 22)]) :: cb 24 (.pick (.s 21) (.c (kb true)) (.s 23)) :: cb 25 (.mv (.s 24)) :: cg 26 25 false (.ld true 8 (.s 4)) :: cg 27 25 false (.bsl 8 [(.s 26)]) :: ch 28 25 false (.call none (.c (kf 11)) [(.s 27)]) :: cb 29 (.pick (.s 25) (.c (kb true)) (.s 28)) :: cb 30 (.mv (.s 29)) :: cg 31 30 false (.ld true 8 (.s 4)) :: ch 32 30 false (.call none (.c (kf 12)) [(.s 31)]) :: ch 33 30 false (.un .not (.s 32)) :: cb 34 (.pick (.s 30) (.c (kb true)) (.s 33)) :: cb 35 (.mv (.s 34)) :: cg 36 35 false (.mov 2 (.s 4)) :: cg 37 35 false (.ld false 1 (.s 36)) :: ch 38 35 false (.bin .eql .any (.s 37) (.c (ki .i64 0))) :: cb 39 (.pick (.s 35) (.c (kb true)) (.s 38)) :: []) [0, 2, 4, 7, 10, 14, 39]) (.ite (.s 39) (.seq (R [cb 40 (.tk (.s 7)), cb 6 (.tk (.s 40))] [4, 6, 10, 14]) (.ret)) (.skip))) (.seq (R [c0 41 (.call none (.c (kf 13)) []), c0 8 (.tk (.s 41))] [0, 2, 4, 7, 8, 10, 14]) (.seq (.seq (R [c0 9 (.tk (.c (ki .i64 0)))] [0, 2, 4, 7, 8, 9, 10, 14]) (.block 0 (LP [0, 2, 4, 7, 8, 9, 10, 14] (.seq (.seq (R [c0 42 (.mv (.s 9)), c0 43 (.mv (.s 0)), c0 44 (.len 1 (.s 43)), cb 45 (.bin .lss .any (.s 42) (.s 44))] [0, 2, 4, 7, 8, 9, 10, 14, 45]) (.ite (.s 45) (.skip) (.exit 0))) (.seq (.block 1 (R [c0 48 (.mv (.s 8)), c0 49 (.mv (.s 0)), c0 50 (.mv (.s 9)), c0 51 (.ixp 8 (.s 49) (.s 50)), c0 52 (.ld true 8 (.s 51)), c0 53 (.bld [ki .i64 0, ks [], ki .i64 0, kz 1] []), c0 54 (.call none (.c (kf 14)) [(.s 48), (.s 52), (.s 53)])] [0, 2, 4, 7, 8, 9, 10, 14])) (R [c0 46 (.mv (.s 9)), c0 47 (.bin .add .any (.s 46) (.c (ki .i64 1))), c0 9 (.tk (.s 47))] [0, 2, 4, 7, 8, 9, 10, 14])))))) (.seq (R [c0 55 (.mv (.s 8)), c0 56 (.ld true 8 (.s 4)), c0 57 (.bld [ki .i64 0, ks [], ki .i64 0, kz 1] []), c0 58 (.call none (.c (kf 14)) [(.s 55), (.s 56), (.s 57)]), c0 10 (.new false (.c (.agg [ki .i64 0, ks [], ki .i64 0, kn 1]))), cn (.st 4 (.s 10) (.s 58))] [2, 4, 7, 8, 10, 14]) (.seq (R [c0 59 (.mov 0 (.s 10)), c0 60 (.ld false 1 (.s 59)), cb 61 (.bin .eql .any (.s 60) (.c (ki .i64 6))), cb 11 (.mv (.s 61))] [2, 4, 7, 8, 10, 11, 14]) (.seq (.seq (R [c0 12 (.tk (.c (ki .i64 0)))] [2, 4, 7, 8, 10, 11, 12, 14]) (.block 2 (LP [2, 4, 7, 8, 10, 11, 12, 14] (.seq (.seq (R [c0 62 (.mv (.s 12)), c0 63 (.mv (.s 2)), c0 64 (.len 1 (.s 63)), cb 65 (.bin .lss .any (.s 62) (.s 64))] [2, 4, 7, 8, 10, 11, 12, 14, 65]) (.ite (.s 65) (.skip) (.exit 2))) (.seq (.block 3 (.seq (R [c0 68 (.mv (.s 8)), c0 69 (.mv (.s 2)), c0 70 (.mv (.s 12)), c0 71 (.ixp 8 (.s 69) (.s 70)), c0 72 (.ld true 8 (.s 71)), c0 73 (.bld [ki .i64 0, ks [], ki .i64 0, kz 1] []), c0 74 (.call none (.c (kf 14)) [(.s 68), (.s 72), (.s 73)])] [2, 4, 7, 8, 10, 11, 12, 14]) (RD (cd (some 75) true none (.mv (.s 11)) false false [11] :: cd (some 76) true none (.mv (.s 75)) false false [75] :: cd (some 77) false (some (76, false)) (.mv (.s 2)) false false [2] :: cd (some 78) false (some (76, false)) (.mv (.s 12)) false false [12] :: cd (some 79) false (some (76, false)) (.ixp 8 (.s 77) (.s 78)) false false [77, 78] :: cd (some 80) false (some (76, false)) (.mov 2 (.s 79)) false false [79] :: cd (some 81) false (some (76, false)) (.ld false 1 (.s 80)) false false [80] :: cd (some 82) true (some (76, false)) (.bin .neq .any (.s 81) (.c (ki .i64 0))) false false [81] :: cd (some 83) true (some (76, false)) (.mv (.s 82)) false false [82] :: cd (some 84) false (some (83, true)) (.mv (.s 2)) false false [2] :: cd (some 85) false (some (83, true)) (.mv (.s 12)) false false [12] :: cd (some 86) false (some (83, true)) (.ixp 8 (.s 84) (.s 85)) false false [84, 85] :: cd (some 87) false (some (83, true)) (.ld true 8 (.s 86)) false false [86] :: cd (some 88) true (some (83, true)) (.call none (.c (kf 12)) [(.s 87)]) false false [87] :: cd (some 89) true (some (76, false)) (.pick (.s 83) (.s 88) (.c (kb false))) false false [83, 88] :: cd (some 90) true (some (76, false)) (.mv (.s 89)) false false [89] :: cd (some 91) false (some (90, true)) (.mv (.s 2)) false false [2] :: cd (some 92) false (some (90, true)) (.mv (.s 12)) false false [12] :: cd (some 93) false (some (90, true)) (.ixp 8 (.s 91) (.s 92)) false false [91, 92] :: cd (some 94) false (some (90, true)) (.mov 0 (.s 93)) false false [93] :: cd (some 95) false (some (90, true)) (.ld false 1 (.s 94)) false false [94] :: cd (some 96) false (some (90, true)) (.mov 0 (.s 4)) false false [4] :: cd (some 97) false (some (90, true)) (.ld false 1 (.s 96)) false false [96] :: cd (some 98) true (some (90, true)) (.bin .eql .any (.s 95) (.s 97)) false false [95, 97] :: cd (some 99) true (some (76, false)) (.pick (.s 90) (.s 98) (.c (kb false))) false false [90, 98] :: cd (some 100) true (some (76, false)) (.mv (.s 99)) false false [99] :: cd (some 101) false (some (100, true)) (.mv (.s 2)) false false [2] :: cd (some 102) false (some (100, true)) (.mv (.s 12)) false false [12] :: cd (some 103) false (some (100, true)) (.ixp 8 (.s 101) (.s 102)) false false [101, 102] :: cd (some 104) false (some (100, true)) (.mov 1 (.s 103)) false false [103] :: cd (some 105) false (some (100, true)) (.ld false 1 (.s 104)) false false [104] :: cd (some 106) false (some (100, true)) (.mov 1 (.s 4)) false false [4] :: cd (some 107) false (some (100, true)) (.ld false 1 (.s 106)) false false [106] :: cd (some 108) true (some (100, true)) (.bin .gtr .any (.s 105) (.s 107)) false false [105, 107] :: cd (some 109) true (some (76, false)) (.pick (.s 100) (.s 108) (.c (kb false))) false false [100, 108] :: cd (some 110) true none (.pick (.s 76) (.c (kb true)) (.s 109)) false false [76, 109] :: cd (some 11) true none (.mv (.s 110)) false false [110] :: []) [2, 4, 7, 8, 10, 11, 12, 14] []))) (R [c0 66 (.mv (.s 12)), c0 67 (.bin .add .any (.s 66) (.c (ki .i64 1))), c0 12 (.tk (.s 67))] [2, 4, 7, 8, 10, 11, 12, 14])))))) (.seq (R [c0 111 (.mv (.s 8)), c0 112 (.call none (.c (kf 15)) [(.s 111)]), c0 13 (.tk (.s 112))] [4, 7, 8, 10, 11, 13, 14]) (.seq (R [c0 113 (.mv (.s 8)), c0 114 (.ld true 8 (.s 4)), c0 115 (.bld [ki .i64 0, ks [], ki .i64 0, kz 1] [(2, 1, (.c (ki .i64 99)))]), c0 116 (.call none (.c (kf 14)) [(.s 113), (.s 114), (.s 115)]), c0 14 (.new false (.c (.agg [ki .i64 0, ks [], ki .i64 0, kn 1]))), cn (.st 4 (.s 14) (.s 116))] [4, 7, 8, 10, 11, 13, 14]) (.seq (R [c0 117 (.ld true 4 (.s 10)), c0 118 (.ld true 4 (.s 14)), cb 119 (.call none (.c (kf 16)) [(.s 117), (.s 118)]), cb 15 (.tk (.s 119))] [4, 7, 8, 10, 11, 13, 14, 15]) (.seq (.seq (R [cb 120 (.mv (.s 11))] [4, 7, 8, 10, 13, 14, 15, 120]) (.ite (.s 120) (.seq (R [cb 121 (.mv (.s 7)), cb 122 (.mv (.s 121)), cg 123 122 true (.mov 0 (.s 14)), cg 124 122 true (.ld false 1 (.s 123)), ch 125 122 true (.bin .eql .any (.s 124) (.c (ki .i64 6))), cb 126 (.pick (.s 122) (.s 125) (.c (kb false))), cb 127 (.mv (.s 126)), cg 128 127 true (.mv (.s 8)), cg 129 127 true (.mv (.s 13)), ch 130 127 true (.call none (.c (kf 17)) [(.s 128), (.s 129)]), cb 131 (.pick (.s 127) (.s 130) (.c (kb false))), cb 6 (.tk (.s 131))] [4, 6, 10, 14]) (.ret)) (.skip))) (.seq (R [cb 132 (.mv (.s 7)), cb 133 (.mv (.s 132)), ch 134 133 true (.mv (.s 15)), cb 135 (.pick (.s 133) (.s 134) (.c (kb false))), cb 136 (.mv (.s 135)), cg 137 136 true (.mv (.s 8)), cg 138 136 true (.mv (.s 13)), ch 139 136 true (.call none (.c (kf 17)) [(.s 137), (.s 138)]), cb 140 (.pick (.s 136) (.s 139) (.c (kb false))), cb 6 (.tk (.s 140))] [4, 6, 10, 14]) (.ret))))))))))))))
theorem fun3 : Fun Tryz.prog cfg 3 141 cd3 [.s 6] := ⟨rfl, Tryz.f3, _, Tryz.func3, rfl, rfl, by kernel_rfl, by kernel_rfl⟩
@[go_sem] theorem ok3 : calleeOK Tryz.prog 3 = true := by kernel_rfl
@[go_sem] theorem ex3 : (cfg.ext 3).isSome = false := rfl
variable {h : DHeap}
section
attribute [-go_sem] wops_cd_n wops_cd_g wp_RD preA postA idxP_cms
set_option maxHeartbeats 4000000 in
theorem sessionOnce_lim (own own2 : Bool) (l : List Cmd) (c : Cmd) (m : List Cmd) (hl : l.length ≤ 1048576) (hs : ∀ x ∈ l, x.path.length ≤ 1048576) (hc : c.path.length ≤ 1048576) (hm : m.length ≤ 1048576) (ht : ∀ x ∈ m, x.path.length ≤ 1048576) :
    lim Tryz.prog cfg 3 [.list own 8 (cms l), cmdD c, .list own2 8 (cms m)] h = some (vb true, h) := by
  refine lim_funp fun3 rfl (by simp) (by simp [heapFree, heapFree.all, free_cms]) rfl ?_
  delta cd3
  have w9 := works9_lim (h := [])
  have n0 := snew1
  have o1 := over_lim (h := []) false l (by omega)
  have o2 := over_lim (h := []) false m (by omega)
  have o3 := over_lim (h := []) false [c] (by simp)
  simp only [cms, List.map_cons, List.map_nil] at o3
  have v0 := svalid_lim (h := []) c
  cases e1 : overP l with
  | true =>
    rw [e1] at o1
    simp -implicitDefEqProofs -dsimp (maxSteps := 1000000) only [go_sem, wp_RD, w9, o1, o2, o3, v0, n0]
  | false =>
  rw [e1] at o1
  cases e2 : overP m with
  | true =>
    rw [e2] at o2
    simp -implicitDefEqProofs -dsimp (maxSteps := 1000000) only [go_sem, wp_RD, w9, o1, o2, o3, v0, n0]
  | false =>
  rw [e2] at o2
  cases e3 : overP [c] with
  | true =>
    rw [e3] at o3
    simp -implicitDefEqProofs -dsimp (maxSteps := 1000000) only [go_sem, wp_RD, w9, o1, o2, o3, v0, n0]
  | false =>
  rw [e3] at o3
  cases e4 : validB c with
  | false =>
    rw [e4] at v0
    simp -implicitDefEqProofs -dsimp (maxSteps := 1000000) only [go_sem, wp_RD, w9, o1, o2, o3, v0, n0]
  | true =>
  rw [e4] at v0
  by_cases e5 : c.op = 0
  · simp -implicitDefEqProofs -dsimp (maxSteps := 1000000) only [go_sem, wp_RD, w9, o1, o2, o3, v0, n0, eq_true e5]
  have hq : l.length ≤ 60 := Decidable.byContradiction fun h1 => by simp [overP, Nat.not_le.1 h1] at e1
  have hqm : m.length ≤ 60 := Decidable.byContradiction fun h1 => by simp [overP, Nat.not_le.1 h1] at e2
  simp -implicitDefEqProofs -dsimp (maxSteps := 1000000) only [go_sem, wp_RD, w9, o1, o2, o3, v0, n0, e5]
  refine wp_for (σ := Nat) (fun k => [(0, .list false 8 (cms l)), (2, .list false 8 (cms m)), (4, .box (cmdL c)), (7, vb true), (8, .ptr 3 0), (9, vi (k : Nat)), (10, .junk), (14, .junk)]) (fun k => h1S (sall (l.take k) 0)) (fun k => l.length - k) (fun k => k ≤ l.length) 0 (Nat.zero_le _) rfl rfl ?_
  rintro k hk N hN
  have Ok := sall_ok l 0 k hk
  by_cases hlt : k < l.length
  · have h1 : (k : Int) < (l.length : Int) := by omega
    have a1 := sa1 Ok (by omega) (by omega) l[k] 0 (hs _ (List.getElem_mem hlt))
    rw [← sall_snoc l 0 k hlt] at a1
    simp -implicitDefEqProofs -dsimp (maxSteps := 1000000) only [go_sem, h1, hlt, a1]
    refine hN (k + 1) _ (by omega) (by omega) ?_
    simp -implicitDefEqProofs -dsimp only [go_sem, wrap_succ (show k < 9223372036854775807 by omega)]
  · have h1 : ¬ (k : Int) < (l.length : Int) := by omega
    have hkl : k = l.length := by omega
    generalize hx : sall (l.take k) 0 = x at *
    have g1 := sa1 Ok (by omega) (by omega) c 0 hc
    have OI := once_start Ok e4 e5 (ctl := {}) (by simp)
    have X1 := sess_ok Ok c (ctl := {}) ⟨Nat.zero_le _, by simp⟩
    have na := sess_names Ok c (ctl := {}) (Nat.zero_le _)
    generalize hx1 : (sessP x c {}).2 = x1 at *
    generalize ha : (sessP x c {}).1 = a at *
    have ea : (a.err = 6) = True ∨ (a.err = 6) = False := by
      by_cases h3 : a.err = 6
      · exact .inl (eq_true h3)
      · exact .inr (eq_false h3)
    rcases ea with ea | ea
    all_goals
      simp -implicitDefEqProofs -dsimp (maxSteps := 1000000) only [go_sem, h1, g1, ea]
      refine wp_for (σ := Nat) (fun j => [(2, .list false 8 (cms m)), (4, .box (cmdL c)), (7, vb true), (8, .ptr 3 0), (10, .box [vi a.err, vs a.value, vi a.version, .list false 1 (ts a.names)]), (11, vb (goneAll c (decide (a.err = 6)) (m.take j))), (12, vi (j : Nat)), (14, .junk)]) (fun j => h1S (sessAll x1 (m.take j) {})) (fun j => m.length - j) (fun j => j ≤ m.length) 0 (Nat.zero_le _) ?_ rfl ?_
      · simp [keepA, look, goneAll, ea]
      rintro j hj N2 hN2
      have Oj := sessAll_ok (ctl := {}) ⟨Nat.zero_le _, by simp⟩ X1 (m.take j)
      have hlm : (m.take j).length = j := by rw [List.length_take]; omega
      rw [hlm] at Oj
      have OIj := once_all {} (m.take j) _ _ OI
      by_cases hlt2 : j < m.length
      · have h2 : (j : Int) < (m.length : Int) := by omega
        have a1 := sa1 Oj (by omega) (by omega) m[j] 0 (ht _ (List.getElem_mem hlt2))
        have hd : sessAll x1 (m.take (j + 1)) {} = (sessP (sessAll x1 (m.take j) {}) m[j] {}).2 := by rw [List.take_succ_eq_append_getElem hlt2]; exact sessAll_snoc ..
        have hg : goneAll c (decide (a.err = 6)) (m.take (j + 1)) = (goneAll c (decide (a.err = 6)) (m.take j) || goneB c m[j]) := by rw [List.take_succ_eq_append_getElem hlt2]; exact goneAll_snoc ..
        have hN3 := hN2 (j + 1)
        simp only [hg] at hN3
        rw [← hd] at a1
        have vj := svalid_lim (h := h1S (sessAll x1 (m.take (j + 1)) {})) m[j]
        generalize goneAll c (decide (a.err = 6)) (m.take j) = gone at *
        simp -implicitDefEqProofs -dsimp (maxSteps := 1000000) only [go_sem, h2, hlt2, a1]
        refine wp_aside9 fun Q hQ => ?_
        suffices hq : Q .normal [(2, .list false 8 (cms m)), (4, .box (cmdL c)), (7, vb true), (8, .ptr 3 0), (10, .box [vi a.err, vs a.value, vi a.version, .list false 1 (ts a.names)]), (11, vb (gone || goneB c m[j])), (12, vi (j : Nat)), (14, .junk)] (h1S (sessAll x1 (m.take (j + 1)) {})) by
          have hgb : goneB c m[j] = (decide (m[j].op ≠ 0) && validB m[j] && decide (m[j].client = c.client) && decide (c.seq < m[j].seq)) := rfl
          cases gone with
          | true =>
            rw [Bool.true_or] at hq
            simp -implicitDefEqProofs -dsimp (maxSteps := 1000000) only [go_sem, wp_RD0, hlt2]
            exact hq
          | false =>
          rw [Bool.false_or, hgb] at hq
          by_cases q1 : m[j].op = 0
          · simp only [q1, ne_eq, not_true_eq_false, decide_false, Bool.false_and] at hq
            simp -implicitDefEqProofs -dsimp (maxSteps := 1000000) only [go_sem, wp_RD0, hlt2, eq_true q1, nat_nn9]
            exact hq
          cases q2 : validB m[j] with
          | false =>
            rw [q2] at vj
            simp only [q1, q2, ne_eq, not_false_eq_true, decide_true, Bool.false_and, Bool.and_false] at hq
            simp -implicitDefEqProofs -dsimp (maxSteps := 1000000) only [go_sem, wp_RD0, hlt2, eq_false q1, vj, nat_nn9]
            exact hq
          | true =>
          rw [q2] at vj
          by_cases q3 : m[j].client = c.client
          rotate_left
          · simp only [q1, q2, q3, ne_eq, not_false_eq_true, decide_true, decide_false, Bool.false_and, Bool.and_false] at hq
            simp -implicitDefEqProofs -dsimp (maxSteps := 1000000) only [go_sem, wp_RD0, hlt2, eq_false q1, vj, eq_false q3, nat_nn9]
            exact hq
          by_cases q4 : c.seq < m[j].seq
          · simp only [q1, q2, q3, q4, ne_eq, not_false_eq_true, decide_true, Bool.true_and, Bool.and_true] at hq
            simp -implicitDefEqProofs -dsimp (maxSteps := 1000000) only [go_sem, wp_RD0, hlt2, eq_false q1, vj, eq_true q3, q4, nat_nn9]
            exact hq
          · simp only [q1, q2, q3, q4, ne_eq, not_false_eq_true, decide_true, decide_false, Bool.and_false] at hq
            simp -implicitDefEqProofs -dsimp (maxSteps := 1000000) only [go_sem, wp_RD0, hlt2, eq_false q1, vj, eq_true q3, q4, nat_nn9]
            exact hq
        refine hQ _ _ _ ?_
        simp -implicitDefEqProofs -dsimp (maxSteps := 1000000) only [go_sem, h2]
        refine hN3 _ (by omega) (by omega) ?_
        simp -implicitDefEqProofs -dsimp only [go_sem, wrap_succ (show j < 9223372036854775807 by omega)]
      · have h2 : ¬ (j : Int) < (m.length : Int) := by omega
        generalize goneAll c (decide (a.err = 6)) (m.take j) = gone at *
        generalize sessAll x1 (m.take j) {} = y at *
        have f0 := scl1 y
        have g2 := sa21 y Oj (by omega) (by omega) c 99 hc
        rw [once_last OIj e4 e5] at g2
        have r1 := ssame2 Oj Oj (by omega) (by omega) (SameM.refl y)
        have r0 := fun b => same_lim (h := h2S y y) false false a b (by omega)
        generalize h2S y y = H2 at *
        generalize h1S y = H1 at *
        cases gone with
        | true =>
          have r2 := r0 { err := 6 }
          simp only [if_true, ts, List.map_nil] at g2 r2
          simp -implicitDefEqProofs -dsimp (maxSteps := 1000000) only [go_sem, wp_RD, h2, f0, g2, r2, r1]
        | false =>
          have r2 := r0 a
          rw [decide_eq_true rfl] at r2
          simp only [Bool.false_eq_true, if_false] at g2
          simp -implicitDefEqProofs -dsimp (maxSteps := 1000000) only [go_sem, wp_RD, h2, f0, g2, r2, r1]
end
end Go.DS

/-
  The row SessionOnce.
-/
namespace Go.Proofs.YthncbanajpiadaaGreat.sessionOnce
open Go.ChangeShapes Go.WideShapes Go.ChangeAt Go.RowKit
open Go.ChangeMaps (open_string shut_string)
open Go.DS
set_option linter.unusedVariables false
set_option linter.unusedSimpArgs false

set_option maxRecDepth 100000 in
theorem contract (H : Type) (enc : TypeId × Value → H) (W : World) (base : Nat) (args : Array Value) (ds gs : List (DataW H)) (before : List MemPlace)
    (hval0 : ∀ (j : Nat) t v, Tryz.f3.params[j]? = some t → args[j]? = some v → Value.okWide Tryz.prog W .any base t v)
    (hW : DataW.Whole enc Tryz.prog Tryz.f3.params.toList Rows.sessionOnceSpec.vars false W args.toList ds gs before) (hk : Rows.uptoSmall H (ds ++ gs) = true) :
    Calls Tryz.prog 3 args W fun e W' => ∃ v, e = .returned v ∧ Rows.sessionOnceSpec.post enc Tryz.prog Tryz.f3 false true false false W args v W' := by
  have hval : ∀ (j : Nat) t v, Tryz.f3.params[j]? = some t → args[j]? = some v → Value.okWide Tryz.prog W .any base t v := hval0
  have hW' := hW
  obtain ⟨p, q, hA0, hV, rfl, hfz, hnd⟩ := hW
  have hA : DataW.TrodAll enc Tryz.prog W 0 (fun _ => true) true Tryz.f3.params.toList args.toList ds p := hA0
  rw [Tryz.params3] at hA hval
  obtain ⟨v0, vs0, d0, ds0, p0, q0, hargs, rfl, rfl, h0, r0⟩ := trodAll_cons hA
  obtain ⟨v1, vs1, d1, ds1, p1, q1, rfl, rfl, rfl, h1, r1⟩ := trodAll_cons r0
  obtain ⟨v2, vs2, d2, ds2, p2, q2, rfl, rfl, rfl, h2, r2⟩ := trodAll_cons r1
  obtain ⟨rfl, rfl, rfl⟩ := trodAll_nil r2
  obtain rfl : args = #[v0, v1, v2] := by cases args; simp_all
  obtain ⟨rfl, rfl⟩ := trodVars_none hV
  have lt0 : ∀ x ∈ p0, x.block < W.heap.size := by obtain ⟨m, hm⟩ := h0; exact DataW.trod_lt m _ _ _ hm
  have k0 := h0
  obtain ⟨a0, y0, b0⟩ := arg_cmds (B := 1048575) (hval 0 22 v0 rfl rfl) h0 (by have hb := of_decide_eq_true hk; simp only [Rows.uptoBulkAll, List.append_nil, List.cons_append, List.nil_append] at hb; omega)
  have lt1 : ∀ x ∈ p1, x.block < W.heap.size := by obtain ⟨m, hm⟩ := h1; exact DataW.trod_lt m _ _ _ hm
  have k1 := h1
  obtain ⟨a1, y1, b1⟩ := arg_cmd (B := 1048575) (hval 1 25 v1 rfl rfl) h1 (by have hb := of_decide_eq_true hk; simp only [Rows.uptoBulkAll, List.append_nil, List.cons_append, List.nil_append] at hb; omega)
  have lt2 : ∀ x ∈ p2, x.block < W.heap.size := by obtain ⟨m, hm⟩ := h2; exact DataW.trod_lt m _ _ _ hm
  have k2 := h2
  obtain ⟨a2, y2, b2⟩ := arg_cmds (B := 1048575) (hval 2 22 v2 rfl rfl) h2 (by have hb := of_decide_eq_true hk; simp only [Rows.uptoBulkAll, List.append_nil, List.cons_append, List.nil_append] at hb; omega)
  clear hA0 hval0
  have hb := of_decide_eq_true hk
  simp only [Rows.uptoBulkAll, Rows.uptoBulk, List.append_nil] at hb
  refine (Go.DS.start ext_ok (sessionOnce_lim false false a0 a1 a2 (by have := b0.1; omega) (fun x hx => by have := (b0.2 x hx).path; omega) (by have := b1.path; omega) (by have := b2.1; omega) (fun x hx => by have := (b2.2 x hx).path; omega)) W (vs := #[v0, v1, v2]) (.cons (y0) (.cons (y1) (.cons (y2) (.nil _))))).mono fun e W' ⟨he, bel⟩ => ?_
  subst he
  exact ⟨_, rfl, _, _, _, [], _, [], hW', trodAll_mk1 (shut_bool Tryz.underlying4 _), (trodAll_cons_mk (Below.trod laidOut' (by kernel_rfl) (of_decide_eq_true (by kernel_rfl)) k0 bel lt0) (trodAll_cons_mk (Below.trod laidOut' (by kernel_rfl) (of_decide_eq_true (by kernel_rfl)) k1 bel lt1) (trodAll_cons_mk (Below.trod laidOut' (by kernel_rfl) (of_decide_eq_true (by kernel_rfl)) k2 bel lt2) trodAll_mk0))), rfl, bel.frame _, fun h => by cases h⟩

set_option maxRecDepth 100000 in
theorem lifted (os : Os) (started : os.Started) (H : Type) (enc : TypeId × Value → H) (F : Stop.Interp) :
    ReturnsInHanded {} Tryz.checked os 3 .any ((Rows.OpenSpec.upto Rows.sessionOnceSpec).pre6 enc Tryz.prog Tryz.f3 Rows.sessionOnceUptoRow.domain false) (((Rows.OpenSpec.upto Rows.sessionOnceSpec).at F).post enc Tryz.prog Tryz.f3 false true false false) := by
  refine returnsInHanded_of_cond (C := Tryz.checked) (s := Rows.OpenSpec.upto Rows.sessionOnceSpec) (k := Rows.uptoSmall) rfl own' started (by kernel_rfl) Tryz.func3
    (OpenSpec.witness (enc := enc) (C := Tryz.checked) (s := Rows.OpenSpec.upto Rows.sessionOnceSpec) (k := Rows.uptoSmall) rfl false ⟨#[], #[.slice none 0 0, .agg #[.int .i64 0, .int .i64 0, .int .i64 0, .string ByteArray.empty, .string ByteArray.empty, .int .i64 0, .int .i64 0, .int .i64 0], .slice none 0 0], []⟩ 8 (by kernel_rfl) (by kernel_rfl) (by kernel_rfl)
      (x := ([.nil, .agg [.lit (.int .i64 0), .lit (.int .i64 0), .lit (.int .i64 0), .lit (.string []), .lit (.string []), .lit (.int .i64 0), .lit (.int .i64 0), .lit (.int .i64 0)], .nil], [], [])) (by kernel_rfl) rfl (by kernel_rfl)) ?_
  intro W base args ds gs before hval hW _ hk _
  exact contract H enc W base args ds gs before hval hW hk

theorem over : Rows.sessionOnceUptoRow.holds Tryz.pinned (Rows.OpenSpec.upto Rows.sessionOnceSpec) :=
  OpenClaim.holds_of_cond 3 Tryz.f3 rfl rfl rfl rfl rfl rfl rfl ⟨rfl, rfl, rfl, rfl, rfl⟩ rfl rfl rfl rfl rfl (by kernel_rfl) Tryz.func3 (by kernel_rfl)
    (of_decide_eq_true (by kernel_rfl)) (by unfold Func.isWrapper; first | (rw [if_pos (by decide +kernel)]; kernel_rfl) | (rw [if_neg (by decide +kernel)]; exact ⟨rfl, rfl⟩))
    (fun os started H enc _ F => lifted os started H enc F)

theorem proved : Rows.SessionOnceUptoSaid := over
#print axioms proved
end Go.Proofs.YthncbanajpiadaaGreat.sessionOnce
namespace Go.Proofs.YthncbanajpiadaaGreat
theorem sessionOnce_holds : Rows.SessionOnceUptoSaid := sessionOnce.proved
end Go.Proofs.YthncbanajpiadaaGreat
