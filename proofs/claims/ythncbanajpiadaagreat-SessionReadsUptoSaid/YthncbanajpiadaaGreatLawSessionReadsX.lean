/-
  Drawn regions, with less to look at.
-/
import Derived.Test.YthncbanajpiadaaGreatH9
import Derived.WalkKit
import Derived.ProofKit
import Derived.OpenShut
import Derived.ShutString
import Derived.ChangeOld
import Derived.Below
import Derived.JoinedCond
import Derived.Carry
set_option linter.unusedSimpArgs false
set_option linter.unusedVariables false
namespace Go.DS
open Go Go.Proofs
set_option maxRecDepth 100000
set_option linter.unusedVariables false
set_option linter.unusedSimpArgs false
/-- What a drawn region asks behind an operation, where nothing is kept. -/
def postC (us : List Nat) (n : Nat) (v : DV) (a : AF) : Bool := match v with
  | .path s' _ => us.any fun s => s == s' || (decide (s < n) && match look s a with | .path s'' _ => s'' == s' | _ => false)
  | .box _ => false
  | _ => true
theorem preA_ff {n d : Nat} {bl : Bool} {g : Option (Nat × Bool)} {o : O} {us : List Nat} {a : AF} : preA n (cd (some d) bl g o false false us) a = (decide (d < n) && quiet (look d a)) := by simp [preA, cd]
theorem postA_ff {n d : Nat} {bl : Bool} {g : Option (Nat × Bool)} {o : O} {us : List Nat} {a a' : AF} {v : DV} : postA n [] (cd (some d) bl g o false false us) v a a' = postC us n v a := by
  cases v <;> first | rfl | simp [postA, postC, cd]
theorem postC_sc {us : List Nat} {n : Nat} {a : AF} {x : Value} : postC us n (.sc x) a = true := rfl
theorem postC_list {us : List Nat} {n : Nat} {a : AF} {b : Bool} {k : Nat} {l : List (List DV)} : postC us n (.list b k l) a = true := rfl
theorem postC_agg {us : List Nat} {n : Nat} {a : AF} {l : List DV} : postC us n (.agg l) a = true := rfl
theorem postC_ptr {us : List Nat} {n : Nat} {a : AF} {i j : Nat} : postC us n (.ptr i j) a = true := rfl
theorem postC_eptr {us : List Nat} {n : Nat} {a : AF} {l : List DV} : postC us n (.eptr l) a = true := rfl
theorem postC_path {s : Nat} {n off : Nat} {a : AF} : postC [s] n (.path s off) a = true := by simp [postC]
theorem postC_path2 {s t : Nat} {n off : Nat} {a : AF} : postC [s] n (.path t off) a = (s == t || (decide (s < n) && match look s a with | .path s'' _ => s'' == t | _ => false)) := by simp [postC]
variable {P : Program} {C : Cfg} {n : Nat} {o : O} {os : List Cop} {a : AF} {h : DHeap} {N : AF → DHeap → Prop} {g : Nat} {w : Bool}
theorem wops_n2 {d : Nat} {bl : Bool} {us : List Nat} : WOps P C n (some []) (cd (some d) bl none o false false us :: os) a h N =
    ((decide (d < n) = true ∧ quiet (look d a) = true) ∧ WO P C n (some d) o a h fun v a' h' => NfP (Nf v) fun v => postC us n v a = true ∧ PutP bl (some d) (Nf v) a' fun a'' => WOps P C n (some []) os a'' h' N) := by
  rw [wops_cd_n]
  simp only [preA_ff, postA_ff, Nf, Bool.and_eq_true]
theorem wops_g2 {d : Nat} {bl : Bool} {us : List Nat} : WOps P C n (some []) (cd (some d) bl (some (g, w)) o false false us :: os) a h N =
    ((decide (d < n) = true ∧ quiet (look d a) = true) ∧ GuP (Nf (look g a)) w (WO P C n (some d) o a h fun v a' h' => NfP (Nf v) fun v => postC us n v a = true ∧ PutP bl (some d) (Nf v) a' fun a'' => WOps P C n (some []) os a'' h' N) (PutP false (some d) (Nf (.sc undef)) a fun a'' => WOps P C n (some []) os a'' h N)) := by
  rw [wops_cd_g]
  simp only [preA_ff, postA_ff, Nf, Bool.and_eq_true]
theorem wp_RD0 {l : List Cop} {k : List Nat} {Q : XD → AF → DHeap → Prop} : WP P C n (RD l k []) a h Q = WOps P C n (some []) l a h fun a' h' => NfP (Nf (keepA (some k) a')) fun a'' => Q .normal a'' h' := by
  rw [wp_RD]
  simp [DrawP]
theorem idxP_cms2 (l : List Cmd) (i : Int) (N : List DV → Prop) : IdxP (cms l) i N = IdxP l (Nf i) fun c => N [vi c.client, vi c.seq, vi c.op, vs c.path, vs c.value, vi c.version, vi c.a, vi c.b] := by rw [idxP_cms]; rfl
attribute [go_sem high] idxP_cms2
attribute [go_sem ↓] wops_n2 wops_g2
attribute [go_sem ↓] postC_sc postC_list postC_agg postC_ptr postC_eptr postC_path
end Go.DS

/-
  Walks: the law SessionReads.
-/
namespace Go.DS
open Go Go.Proofs
set_option maxRecDepth 100000
set_option linter.unusedVariables false
set_option linter.unusedSimpArgs false
def cd7 : Cd := .seq (R [cb 6 (.tk (.c (kb false)))] [0, 1, 2, 10, 12, 15]) (.seq (R [cb 16 (.call none (.c (kf 10)) []), cb 7 (.tk (.s 16))] [0, 1, 2, 7, 10, 12, 15]) (.seq (.seq (R [cb 17 (.mv (.s 7)), cb 18 (.un .not (.s 17))] [0, 1, 2, 7, 10, 12, 15, 18]) (.ite (.s 18) (.seq (R [cb 6 (.tk (.c (kb false)))] [6, 10, 12, 15]) (.ret)) (.skip))) (.seq (.seq (R [c0 19 (.mv (.s 0)), cb 20 (.call none (.c (kf 11)) [(.s 19)]), cb 21 (.mv (.s 20)), cg 22 21 false (.mv (.s 2)), ch 23 21 false (.call none (.c (kf 11)) [(.s 22)]), cb 24 (.pick (.s 21) (.c (kb true)) (.s 23)), cb 25 (.mv (.s 24)), cg 26 25 false (.mv (.s 1)), cg 27 25 false (.len 0 (.s 26)), ch 28 25 false (.bin .gtr .any (.s 27) (.c (ki .i64 300))), cb 29 (.pick (.s 25) (.c (kb true)) (.s 28))] [0, 1, 2, 7, 10, 12, 15, 29]) (.ite (.s 29) (.seq (R [cb 30 (.tk (.s 7)), cb 6 (.tk (.s 30))] [6, 10, 12, 15]) (.ret)) (.skip))) (.seq (R [c0 31 (.call none (.c (kf 13)) []), c0 8 (.tk (.s 31))] [0, 1, 2, 7, 8, 10, 12, 15]) (.seq (.seq (R [c0 9 (.tk (.c (ki .i64 0)))] [0, 1, 2, 7, 8, 9, 10, 12, 15]) (.block 0 (LP [0, 1, 2, 7, 8, 9, 10, 12, 15] (.seq (.seq (R [c0 32 (.mv (.s 9)), c0 33 (.mv (.s 0)), c0 34 (.len 1 (.s 33)), cb 35 (.bin .lss .any (.s 32) (.s 34))] [0, 1, 2, 7, 8, 9, 10, 12, 15, 35]) (.ite (.s 35) (.skip) (.exit 0))) (.seq (.block 1 (.seq (R [c0 38 (.mv (.s 0)), c0 39 (.mv (.s 9)), c0 40 (.ixp 8 (.s 38) (.s 39)), c0 41 (.mov 0 (.s 40)), c0 42 (.ld false 1 (.s 41)), cb 43 (.bin .neq .any (.s 42) (.c (ki .i64 77)))] [0, 1, 2, 7, 8, 9, 10, 12, 15, 43]) (.ite (.s 43) (R [c0 44 (.mv (.s 8)), c0 45 (.mv (.s 0)), c0 46 (.mv (.s 9)), c0 47 (.ixp 8 (.s 45) (.s 46)), c0 48 (.ld true 8 (.s 47)), c0 49 (.bld [ki .i64 0, ks [], ki .i64 0, kz 1] []), c0 50 (.call none (.c (kf 14)) [(.s 44), (.s 48), (.s 49)])] [0, 1, 2, 7, 8, 9, 10, 12, 15]) (.skip)))) (R [c0 36 (.mv (.s 9)), c0 37 (.bin .add .any (.s 36) (.c (ki .i64 1))), c0 9 (.tk (.s 37))] [0, 1, 2, 7, 8, 9, 10, 12, 15])))))) (.seq (R [c0 51 (.mv (.s 1)), c0 52 (.bld [ki .i64 0, ki .i64 0, ki .i64 0, ks [], ks [], ki .i64 0, ki .i64 0, ki .i64 0] [(0, 1, (.c (ki .i64 77))), (1, 1, (.c (ki .i64 1))), (2, 1, (.c (ki .i64 4))), (3, 1, (.s 51))]), c0 10 (.new false (.c (.agg [ki .i64 0, ki .i64 0, ki .i64 0, ks [], ks [], ki .i64 0, ki .i64 0, ki .i64 0]))), cn (.st 8 (.s 10) (.s 52))] [1, 2, 7, 8, 10, 12, 15]) (.seq (R [c0 53 (.mv (.s 8)), c0 54 (.call none (.c (kf 19)) [(.s 53)]), c0 11 (.tk (.s 54))] [1, 2, 7, 8, 10, 11, 12, 15]) (.seq (R [c0 55 (.mv (.s 8)), c0 56 (.ld true 8 (.s 10)), c0 57 (.bld [ki .i64 0, ks [], ki .i64 0, kz 1] []), c0 58 (.call none (.c (kf 14)) [(.s 55), (.s 56), (.s 57)]), c0 12 (.new false (.c (.agg [ki .i64 0, ks [], ki .i64 0, kn 1]))), cn (.st 4 (.s 12) (.s 58))] [1, 2, 7, 8, 10, 11, 12, 15]) (.seq (.seq (R [c0 59 (.mv (.s 11)), c0 60 (.mv (.s 8)), c0 61 (.call none (.c (kf 19)) [(.s 60)]), cb 62 (.call none (.c (kf 21)) [(.s 59), (.s 61)]), cb 63 (.un .not (.s 62))] [1, 2, 7, 8, 10, 11, 12, 15, 63]) (.ite (.s 63) (.seq (R [cb 6 (.tk (.c (kb false)))] [6, 10, 12, 15]) (.ret)) (.skip))) (.seq (.seq (R [c0 13 (.tk (.c (ki .i64 0)))] [1, 2, 7, 8, 10, 11, 12, 13, 15]) (.block 2 (LP [1, 2, 7, 8, 10, 11, 12, 13, 15] (.seq (.seq (R [c0 64 (.mv (.s 13)), c0 65 (.mv (.s 11)), c0 66 (.len 1 (.s 65)), cb 67 (.bin .lss .any (.s 64) (.s 66))] [1, 2, 7, 8, 10, 11, 12, 13, 15, 67]) (.ite (.s 67) (.skip) (.exit 2))) (.seq (.block 3 (.seq (RD (cd (some 70) false none (.mv (.s 11)) false false [11] :: cd (some 71) false none (.mv (.s 13)) false false [13] :: cd (some 72) false none (.ixp 3 (.s 70) (.s 71)) false false [70, 71] :: cd (some 73) false none (.mov 0 (.s 72)) false false [72] :: cd (some 74) false none (.ld false 1 (.s 73)) false false [73] :: cd (some 75) false none (.mv (.s 1)) false false [1] :: cd (some 76) true none (.bin .eql .any (.s 74) (.s 75)) false false [74, 75] :: cd (some 77) true none (.mv (.s 76)) false false [76] :: cd (some 78) false (some (77, true)) (.mov 0 (.s 12)) false false [12] :: cd (some 79) false (some (77, true)) (.ld false 1 (.s 78)) false false [78] :: cd (some 80) true (some (77, true)) (.bin .neq .any (.s 79) (.c (ki .i64 0))) false false [79] :: cd (some 81) true (some (77, true)) (.mv (.s 80)) false false [80] :: cd (some 82) false (some (81, false)) (.mov 1 (.s 12)) false false [12] :: cd (some 83) false (some (81, false)) (.ld false 1 (.s 82)) false false [82] :: cd (some 84) false (some (81, false)) (.mv (.s 11)) false false [11] :: cd (some 85) false (some (81, false)) (.mv (.s 13)) false false [13] :: cd (some 86) false (some (81, false)) (.ixp 3 (.s 84) (.s 85)) false false [84, 85] :: cd (some 87) false (some (81, false)) (.mov 1 (.s 86)) false false [86] :: cd (some 88) false (some (81, false)) (.ld false 1 (.s 87)) false false [87] :: cd (some 89) true (some (81, false)) (.bin .neq .any (.s 83) (.s 88)) false false [83, 88] :: cd (some 90) true (some (77, true)) (.pick (.s 81) (.c (kb true)) (.s 89)) false false [81, 89] :: cd (some 91) true (some (77, true)) (.mv (.s 90)) false false [90] :: cd (some 92) false (some (91, false)) (.mov 2 (.s 12)) false false [12] :: cd (some 93) false (some (91, false)) (.ld false 1 (.s 92)) false false [92] :: cd (some 94) false (some (91, false)) (.mv (.s 11)) false false [11] :: cd (some 95) false (some (91, false)) (.mv (.s 13)) false false [13] :: cd (some 96) false (some (91, false)) (.ixp 3 (.s 94) (.s 95)) false false [94, 95] :: cd (some 97) false (some (91, false)) (.mov 2 (.s 96)) false false [96] :: cd (some 98) false (some (91, false)) (.ld false 1 (.s 97)) false false [97] :: cd (some 99) true (some (91, false)) (.bin .neq .any (.s 93) (.s 98)) false false [93, 98] :: cd (some 100) true (some (77, true)) (.pick (.s 91) (.c (kb true)) (.s 99)) false false [91, 99] :: cd (some 101) true none (.pick (.s 77) (.s 100) (.c (kb false))) false false [77, 100] :: []) [1, 2, 7, 8, 10, 11, 12, 13, 15, 101] []) (.ite (.s 101) (.seq (R [cb 6 (.tk (.c (kb false)))] [6, 10, 12, 15]) (.ret)) (.skip)))) (R [c0 68 (.mv (.s 13)), c0 69 (.bin .add .any (.s 68) (.c (ki .i64 1))), c0 13 (.tk (.s 69))] [1, 2, 7, 8, 10, 11, 12, 13, 15])))))) (.seq (.seq (R [c0 14 (.tk (.c (ki .i64 0)))] [2, 7, 8, 10, 12, 14, 15]) (.block 4 (LP [2, 7, 8, 10, 12, 14, 15] (.seq (.seq (R [c0 102 (.mv (.s 14)), c0 103 (.mv (.s 2)), c0 104 (.len 1 (.s 103)), cb 105 (.bin .lss .any (.s 102) (.s 104))] [2, 7, 8, 10, 12, 14, 15, 105]) (.ite (.s 105) (.skip) (.exit 4))) (.seq (.block 5 (.seq (R [c0 108 (.mv (.s 2)), c0 109 (.mv (.s 14)), c0 110 (.ixp 8 (.s 108) (.s 109)), c0 111 (.mov 0 (.s 110)), c0 112 (.ld false 1 (.s 111)), cb 113 (.bin .neq .any (.s 112) (.c (ki .i64 77)))] [2, 7, 8, 10, 12, 14, 15, 113]) (.ite (.s 113) (R [c0 114 (.mv (.s 8)), c0 115 (.mv (.s 2)), c0 116 (.mv (.s 14)), c0 117 (.ixp 8 (.s 115) (.s 116)), c0 118 (.ld true 8 (.s 117)), c0 119 (.bld [ki .i64 0, ks [], ki .i64 0, kz 1] []), c0 120 (.call none (.c (kf 14)) [(.s 114), (.s 118), (.s 119)])] [2, 7, 8, 10, 12, 14, 15]) (.skip)))) (R [c0 106 (.mv (.s 14)), c0 107 (.bin .add .any (.s 106) (.c (ki .i64 1))), c0 14 (.tk (.s 107))] [2, 7, 8, 10, 12, 14, 15])))))) (.seq (R [c0 121 (.mv (.s 8)), c0 122 (.ld true 8 (.s 10)), c0 123 (.bld [ki .i64 0, ks [], ki .i64 0, kz 1] []), c0 124 (.call none (.c (kf 14)) [(.s 121), (.s 122), (.s 123)]), c0 15 (.new false (.c (.agg [ki .i64 0, ks [], ki .i64 0, kn 1]))), cn (.st 4 (.s 15) (.s 124))] [7, 10, 12, 15]) (.seq (R [cb 125 (.mv (.s 7)), cb 126 (.mv (.s 125)), cg 127 126 true (.ld true 4 (.s 12)), cg 128 126 true (.ld true 4 (.s 15)), ch 129 126 true (.call none (.c (kf 16)) [(.s 127), (.s 128)]), cb 130 (.pick (.s 126) (.s 129) (.c (kb false))), cb 6 (.tk (.s 130))] [6, 10, 12, 15]) (.ret))))))))))))))
theorem fun7 : Fun Tryz.prog cfg 7 131 cd7 [.s 6] := ⟨rfl, Tryz.f7, _, Tryz.func7, rfl, rfl, by kernel_rfl, by kernel_rfl⟩
@[go_sem] theorem ok7 : calleeOK Tryz.prog 7 = true := by kernel_rfl
@[go_sem] theorem ex7 : (cfg.ext 7).isSome = false := rfl
variable {h : DHeap}
section
theorem idxP_eds2 (l : List Ent) (i : Int) (N : List DV → Prop) : IdxP (eds l) i N = IdxP l (Nf i) fun e => N [vs e.1, vs e.2.1, vi e.2.2] := by
  unfold eds
  rw [idxP_map]
  rfl
attribute [-go_sem] wops_cd_n wops_cd_g wp_RD preA postA idxP_cms idxP_eds
attribute [go_sem high] idxP_eds2
set_option maxHeartbeats 4000000 in
theorem sessionReads_lim (own own2 : Bool) (l : List Cmd) (p : Str) (m : List Cmd) (hl : l.length ≤ 1048576) (hs : ∀ x ∈ l, x.path.length ≤ 1048576) (hp : p.length ≤ 1048576) (hm : m.length ≤ 1048576) (ht : ∀ x ∈ m, x.path.length ≤ 1048576) :
    lim Tryz.prog cfg 7 [.list own 8 (cms l), vs p, .list own2 8 (cms m)] h = some (vb true, h) := by
  refine lim_funp fun7 rfl (by simp) (by simp [heapFree, heapFree.all, free_cms]) rfl ?_
  delta cd7
  have w9 := works9_lim (h := [])
  have n0 := snew1
  have o1 := over_lim (h := []) false l (by omega)
  have o2 := over_lim (h := []) false m (by omega)
  cases e1 : overP l with
  | true =>
    rw [e1] at o1
    simp -implicitDefEqProofs -dsimp (maxSteps := 1000000) only [go_sem, ↓wp_RD0, w9, o1, o2, n0]
  | false =>
  rw [e1] at o1
  cases e2 : overP m with
  | true =>
    rw [e2] at o2
    simp -implicitDefEqProofs -dsimp (maxSteps := 1000000) only [go_sem, ↓wp_RD0, w9, o1, o2, n0]
  | false =>
  rw [e2] at o2
  by_cases e3 : (300 : Int) < (p.length : Int)
  · simp -implicitDefEqProofs -dsimp (maxSteps := 1000000) only [go_sem, ↓wp_RD0, w9, o1, o2, n0, e3]
  have hq : l.length ≤ 60 := Decidable.byContradiction fun h1 => by simp [overP, Nat.not_le.1 h1] at e1
  have hqm : m.length ≤ 60 := Decidable.byContradiction fun h1 => by simp [overP, Nat.not_le.1 h1] at e2
  simp -implicitDefEqProofs -dsimp (maxSteps := 1000000) only [go_sem, ↓wp_RD0, w9, o1, o2, n0, e3]
  refine wp_for (σ := Nat) (fun k => [(0, .list false 8 (cms l)), (1, vs p), (2, .list false 8 (cms m)), (7, vb true), (8, .ptr 3 0), (9, vi (k : Nat)), (10, .junk), (12, .junk), (15, .junk)]) (fun k => h1S (rdAll x0 (l.take k))) (fun k => l.length - k) (fun k => k ≤ l.length) 0 (Nat.zero_le _) rfl rfl ?_
  rintro k hk N hN
  have Ok := rdAll_ok (l.take k) (sessOK_nil 0 0)
  have hln : (l.take k).length = k := by rw [List.length_take]; omega
  rw [hln] at Ok
  have hse : seenP (rdAll x0 (l.take k)).s 77 = (0, {}) := rdAll_seen (l.take k) x0
  by_cases hlt : k < l.length
  · have h1 : (k : Int) < (l.length : Int) := by omega
    have hN3 := hN (k + 1)
    have a1 := sa1 Ok (by omega) (by omega) l[k] 0 (hs _ (List.getElem_mem hlt))
    simp only [List.take_succ_eq_append_getElem hlt, rdAll_snoc] at hN3
    by_cases q : l[k].client = 77
    · rw [if_pos q] at hN3
      simp -implicitDefEqProofs -dsimp (maxSteps := 1000000) only [go_sem, h1, hlt, eq_true q, cms_get, nat_nn9]
      refine hN3 _ (by omega) (by omega) ?_
      simp -implicitDefEqProofs -dsimp only [go_sem, wrap_succ (show k < 9223372036854775807 by omega)]
    · rw [if_neg q] at hN3
      simp -implicitDefEqProofs -dsimp (maxSteps := 1000000) only [go_sem, h1, hlt, eq_false q, a1, cms_get, nat_nn9]
      refine hN3 _ (by omega) (by omega) ?_
      simp -implicitDefEqProofs -dsimp only [go_sem, wrap_succ (show k < 9223372036854775807 by omega)]
  · have h1 : ¬ (k : Int) < (l.length : Int) := by omega
    generalize rdAll x0 (l.take k) = x at *
    have f1 := spa1 Ok (by omega)
    have Y := sess_ok Ok (get77 p) (ctl := {}) ⟨Nat.zero_le _, by simp⟩
    have g1 : lim Tryz.prog cfg 14 [.ptr 3 0, .agg [vi 77, vi 1, vi 4, vs p, vs [], vi 0, vi 0, vi 0], .agg [vi 0, vs [], vi 0, .list false 1 []]] (h1S x) = some (repD (getR x.d p), h1S (sessP x (get77 p) {}).2) := by
      have := sa1 Ok (by omega) (by omega) (get77 p) 0 hp
      rw [show (sessP x (get77 p) { version := 0 }).1 = getR x.d p by rw [show ({ version := 0 } : Rep) = {} from rfl, sess_get77 hse]] at this
      exact this
    have hyd : (sessP x (get77 p) {}).2.d = x.d := by rw [sess_get77 hse]
    have hys : seenP (sessP x (get77 p) {}).2.s 77 = (1, getR x.d p) := by
      rw [sess_get77 hse]
      simp only
      rw [seen_set, if_pos rfl]
    have f2 := spa1 Y (by omega)
    rw [hyd] at f2
    have rr := row_lim (h := h1S (sessP x (get77 p) {}).2) false false (entriesP x.d) (entriesP x.d) (by have := entries_len x.d; have := Ok.dir.len; omega)
    rw [decide_eq_true rfl] at rr
    have hE := fun e (he : e ∈ entriesP x.d) => entries_getR Ok.dir he
    have na := getR_names x.d p
    have lenE := entries_len x.d
    have lenx := Ok.dir.len
    generalize hy : (sessP x (get77 p) {}).2 = y at *
    generalize entriesP x.d = E at *
    have hEp : ∀ j, ∀ hj : j < E.length, E[j].1 = p → (getR x.d p).err = 0 ∧ (getR x.d p).value = E[j].2.1 ∧ (getR x.d p).version = E[j].2.2 := fun j hj e => by
      rw [← e, hE _ (List.getElem_mem hj)]; exact ⟨rfl, rfl, rfl⟩
    generalize getR x.d p = a at *
    simp -implicitDefEqProofs -dsimp (maxSteps := 1000000) only [go_sem, ↓wp_RD0, h1, f1, g1, f2, rr]
    refine wp_for (σ := Nat) (fun j => [(1, vs p), (2, .list false 8 (cms m)), (7, vb true), (8, .ptr 3 0), (10, .box [vi 77, vi 1, vi 4, vs p, vs [], vi 0, vi 0, vi 0]), (11, .list true 3 (eds E)), (12, .box [vi a.err, vs a.value, vi a.version, .list false 1 (ts a.names)]), (13, vi (j : Nat)), (15, .junk)]) (fun _ => h1S y) (fun j => E.length - j) (fun j => j ≤ E.length) 0 (Nat.zero_le _) rfl rfl ?_
    rintro j hj N2 hN2
    by_cases hlt2 : j < E.length
    · have h2 : (j : Int) < (E.length : Int) := by omega
      have hN3 := hN2 (j + 1)
      by_cases q : E[j].1 = p
      · obtain ⟨r1, r2, r3⟩ := hEp j hlt2 q
        simp -implicitDefEqProofs -dsimp (maxSteps := 1000000) only [go_sem, ↓wp_RD0, h2, hlt2, eq_true q, eq_true r1, eq_true r2, eq_true r3, nat_nn9]
        refine hN3 _ (by omega) (by omega) ?_
        simp -implicitDefEqProofs -dsimp only [go_sem, wrap_succ (show j < 9223372036854775807 by omega)]
      · simp -implicitDefEqProofs -dsimp (maxSteps := 1000000) only [go_sem, ↓wp_RD0, h2, hlt2, eq_false q, nat_nn9]
        refine hN3 _ (by omega) (by omega) ?_
        simp -implicitDefEqProofs -dsimp only [go_sem, wrap_succ (show j < 9223372036854775807 by omega)]
    · have h2 : ¬ (j : Int) < (E.length : Int) := by omega
      simp -implicitDefEqProofs -dsimp (maxSteps := 1000000) only [go_sem, ↓wp_RD0, h2]
      refine wp_for (σ := Nat) (fun i => [(2, .list false 8 (cms m)), (7, vb true), (8, .ptr 3 0), (10, .box [vi 77, vi 1, vi 4, vs p, vs [], vi 0, vi 0, vi 0]), (12, .box [vi a.err, vs a.value, vi a.version, .list false 1 (ts a.names)]), (14, vi (i : Nat)), (15, .junk)]) (fun i => h1S (rdAll y (m.take i))) (fun i => m.length - i) (fun i => i ≤ m.length) 0 (Nat.zero_le _) rfl rfl ?_
      rintro i hi N4 hN4
      have Oi := rdAll_ok (m.take i) Y
      have hlm : (m.take i).length = i := by rw [List.length_take]; omega
      rw [hlm] at Oi
      by_cases hlt3 : i < m.length
      · have h3 : (i : Int) < (m.length : Int) := by omega
        have hN5 := hN4 (i + 1)
        have a1 := sa1 Oi (by omega) (by omega) m[i] 0 (ht _ (List.getElem_mem hlt3))
        simp only [List.take_succ_eq_append_getElem hlt3, rdAll_snoc] at hN5
        by_cases q : m[i].client = 77
        · rw [if_pos q] at hN5
          simp -implicitDefEqProofs -dsimp (maxSteps := 1000000) only [go_sem, h3, hlt3, eq_true q, cms_get, nat_nn9]
          refine hN5 _ (by omega) (by omega) ?_
          simp -implicitDefEqProofs -dsimp only [go_sem, wrap_succ (show i < 9223372036854775807 by omega)]
        · rw [if_neg q] at hN5
          simp -implicitDefEqProofs -dsimp (maxSteps := 1000000) only [go_sem, h3, hlt3, eq_false q, a1, cms_get, nat_nn9]
          refine hN5 _ (by omega) (by omega) ?_
          simp -implicitDefEqProofs -dsimp only [go_sem, wrap_succ (show i < 9223372036854775807 by omega)]
      · have h3 : ¬ (i : Int) < (m.length : Int) := by omega
        have hsz : seenP (rdAll y (m.take i)).s 77 = (1, a) := by rw [rdAll_seen]; exact hys
        generalize rdAll y (m.take i) = z at *
        have OI : OnceI (get77 p) a false z := ⟨fun h => (by cases h), fun _ => hsz⟩
        have g3 : lim Tryz.prog cfg 14 [.ptr 3 0, .agg [vi 77, vi 1, vi 4, vs p, vs [], vi 0, vi 0, vi 0], .agg [vi 0, vs [], vi 0, .list false 1 []]] (h1S z) = some (repD a, h1S z) := by
          have := sa1 Oi (by omega) (by omega) (get77 p) 0 hp
          rw [once_last OI rfl (show (4 : Int) ≠ 0 by decide)] at this
          exact this
        have r1 := same_lim (h := h1S z) false false a a na
        rw [decide_eq_true rfl] at r1
        generalize h1S z = H9 at *
        simp -implicitDefEqProofs -dsimp (maxSteps := 1000000) only [go_sem, ↓wp_RD0, h3, g3, r1]
end
end Go.DS

/-
  The row SessionReads.
-/
namespace Go.Proofs.YthncbanajpiadaaGreat.sessionReads
open Go.ChangeShapes Go.WideShapes Go.ChangeAt Go.RowKit
open Go.ChangeMaps (open_string shut_string)
open Go.DS
set_option linter.unusedVariables false
set_option linter.unusedSimpArgs false

set_option maxRecDepth 100000 in
theorem contract (H : Type) (enc : TypeId × Value → H) (W : World) (base : Nat) (args : Array Value) (ds gs : List (DataW H)) (before : List MemPlace)
    (hval0 : ∀ (j : Nat) t v, Tryz.f7.params[j]? = some t → args[j]? = some v → Value.okWide Tryz.prog W .any base t v)
    (hW : DataW.Whole enc Tryz.prog Tryz.f7.params.toList Rows.sessionReadsSpec.vars false W args.toList ds gs before) (hk : Rows.uptoSmall H (ds ++ gs) = true) :
    Calls Tryz.prog 7 args W fun e W' => ∃ v, e = .returned v ∧ Rows.sessionReadsSpec.post enc Tryz.prog Tryz.f7 false true false false W args v W' := by
  have hval : ∀ (j : Nat) t v, Tryz.f7.params[j]? = some t → args[j]? = some v → Value.okWide Tryz.prog W .any base t v := hval0
  have hW' := hW
  obtain ⟨p, q, hA0, hV, rfl, hfz, hnd⟩ := hW
  have hA : DataW.TrodAll enc Tryz.prog W 0 (fun _ => true) true Tryz.f7.params.toList args.toList ds p := hA0
  rw [Tryz.params7] at hA hval
  obtain ⟨v0, vs0, d0, ds0, p0, q0, hargs, rfl, rfl, h0, r0⟩ := trodAll_cons hA
  obtain ⟨v1, vs1, d1, ds1, p1, q1, rfl, rfl, rfl, h1, r1⟩ := trodAll_cons r0
  obtain ⟨v2, vs2, d2, ds2, p2, q2, rfl, rfl, rfl, h2, r2⟩ := trodAll_cons r1
  obtain ⟨rfl, rfl, rfl⟩ := trodAll_nil r2
  obtain rfl : args = #[v0, v1, v2] := by cases args; simp_all
  obtain ⟨rfl, rfl⟩ := trodVars_none hV
  have lt0 : ∀ x ∈ p0, x.block < W.heap.size := by obtain ⟨m, hm⟩ := h0; exact DataW.trod_lt m _ _ _ hm
  have k0 := h0
  obtain ⟨a0, y0, b0⟩ := arg_cmds (B := 1048575) (hval 0 22 v0 rfl rfl) h0 (by have hb := of_decide_eq_true hk; simp only [Rows.uptoBulkAll, List.append_nil, List.cons_append, List.nil_append] at hb; omega)
  have lt1 : ∀ x ∈ p1, x.block < W.heap.size := by obtain ⟨m, hm⟩ := h1; exact DataW.trod_lt m _ _ _ hm
  have k1 := h1
  obtain ⟨a1, rfl, rfl, rfl, y1⟩ := open_string Tryz.underlying9 (hval 1 9 v1 rfl rfl) h1
  have lt2 : ∀ x ∈ p2, x.block < W.heap.size := by obtain ⟨m, hm⟩ := h2; exact DataW.trod_lt m _ _ _ hm
  have k2 := h2
  obtain ⟨a2, y2, b2⟩ := arg_cmds (B := 1048575) (hval 2 22 v2 rfl rfl) h2 (by have hb := of_decide_eq_true hk; simp only [Rows.uptoBulkAll, List.append_nil, List.cons_append, List.nil_append] at hb; omega)
  clear hA0 hval0
  have hb := of_decide_eq_true hk
  simp only [Rows.uptoBulkAll, Rows.uptoBulk, List.append_nil] at hb
  have b1 : (bs a1).length ≤ 1048575 := by have : (bs a1).length = a1.data.toList.length := rfl; omega
  refine (Go.DS.start ext_ok (sessionReads_lim false false a0 (bs a1) a2 (by have := b0.1; omega) (fun x hx => by have := (b0.2 x hx).path; omega) (by omega) (by have := b2.1; omega) (fun x hx => by have := (b2.2 x hx).path; omega)) W (vs := #[v0, .string a1, v2]) (.cons (y0) (.cons (.sc _) (.cons (y2) (.nil _))))).mono fun e W' ⟨he, bel⟩ => ?_
  subst he
  exact ⟨_, rfl, _, _, _, [], _, [], hW', trodAll_mk1 (shut_bool Tryz.underlying4 _), (trodAll_cons_mk (Below.trod laidOut' (by kernel_rfl) (of_decide_eq_true (by kernel_rfl)) k0 bel lt0) (trodAll_cons_mk (Below.trod laidOut' (by kernel_rfl) (of_decide_eq_true (by kernel_rfl)) k1 bel lt1) (trodAll_cons_mk (Below.trod laidOut' (by kernel_rfl) (of_decide_eq_true (by kernel_rfl)) k2 bel lt2) trodAll_mk0))), rfl, bel.frame _, fun h => by cases h⟩

set_option maxRecDepth 100000 in
theorem lifted (os : Os) (started : os.Started) (H : Type) (enc : TypeId × Value → H) (F : Stop.Interp) :
    ReturnsInHanded {} Tryz.checked os 7 .any ((Rows.OpenSpec.upto Rows.sessionReadsSpec).pre6 enc Tryz.prog Tryz.f7 Rows.sessionReadsUptoRow.domain false) (((Rows.OpenSpec.upto Rows.sessionReadsSpec).at F).post enc Tryz.prog Tryz.f7 false true false false) := by
  refine returnsInHanded_of_cond (C := Tryz.checked) (s := Rows.OpenSpec.upto Rows.sessionReadsSpec) (k := Rows.uptoSmall) rfl own' started (by kernel_rfl) Tryz.func7
    (OpenSpec.witness (enc := enc) (C := Tryz.checked) (s := Rows.OpenSpec.upto Rows.sessionReadsSpec) (k := Rows.uptoSmall) rfl false ⟨#[], #[.slice none 0 0, .string ByteArray.empty, .slice none 0 0], []⟩ 8 (by kernel_rfl) (by kernel_rfl) (by kernel_rfl)
      (x := ([.nil, .lit (.string []), .nil], [], [])) (by kernel_rfl) rfl (by kernel_rfl)) ?_
  intro W base args ds gs before hval hW _ hk _
  exact contract H enc W base args ds gs before hval hW hk

theorem over : Rows.sessionReadsUptoRow.holds Tryz.pinned (Rows.OpenSpec.upto Rows.sessionReadsSpec) :=
  OpenClaim.holds_of_cond 7 Tryz.f7 rfl rfl rfl rfl rfl rfl rfl ⟨rfl, rfl, rfl, rfl, rfl⟩ rfl rfl rfl rfl rfl (by kernel_rfl) Tryz.func7 (by kernel_rfl)
    (of_decide_eq_true (by kernel_rfl)) (by unfold Func.isWrapper; first | (rw [if_pos (by decide +kernel)]; kernel_rfl) | (rw [if_neg (by decide +kernel)]; exact ⟨rfl, rfl⟩))
    (fun os started H enc _ F => lifted os started H enc F)

theorem proved : Rows.SessionReadsUptoSaid := over
#print axioms proved
end Go.Proofs.YthncbanajpiadaaGreat.sessionReads
namespace Go.Proofs.YthncbanajpiadaaGreat
theorem sessionReads_holds : Rows.SessionReadsUptoSaid := sessionReads.proved
end Go.Proofs.YthncbanajpiadaaGreat
