/-
  Walks: the law LeadNothing.
-/
import Derived.Test.YtpbknejlalkfjaaHA
import Derived.WalkKit
import Derived.ProofKit
import Derived.OpenShut
import Derived.ShutString
import Derived.ChangeOld
import Derived.Below
import Derived.JoinedCond
import Derived.Carry
set_option linter.unusedSimpArgs false
set_option linter.unusedVariables false
namespace Go.DS
open Go Go.Proofs
set_option maxRecDepth 100000
set_option linter.unusedVariables false
set_option linter.unusedSimpArgs false
def cd6 : Cd := .seq (R [c0 5 (.new false (.s 1)), c0 6 (.new false (.s 2)), cb 8 (.tk (.c (kb false)))] [0, 3, 5, 6, 10, 18]) (.seq (R [cb 19 (.call none (.c (kf 8)) []), cb 9 (.tk (.s 19))] [0, 3, 5, 6, 9, 10, 18]) (.seq (.seq (R [cb 20 (.mv (.s 9)), cb 21 (.un .not (.s 20))] [0, 3, 5, 6, 9, 10, 18, 21]) (.ite (.s 21) (.seq (R [cb 8 (.tk (.c (kb false)))] [5, 6, 8, 10, 18]) (.ret)) (.skip))) (.seq (.seq (R [c0 22 (.mv (.s 0)), cb 23 (.bin .lss .any (.s 22) (.c (ki .i64 1))), cb 24 (.mv (.s 23)), cg 25 24 false (.mv (.s 0)), ch 26 24 false (.bin .gtr .any (.s 25) (.c (ki .i64 7))), cb 27 (.pick (.s 24) (.c (kb true)) (.s 26)), cb 28 (.mv (.s 27)), cg 29 28 false (.mv (.s 3)), cg 30 28 false (.len 1 (.s 29)), ch 31 28 false (.bin .gtr .any (.s 30) (.c (ki .i64 60))), cb 32 (.pick (.s 28) (.c (kb true)) (.s 31))] [0, 3, 5, 6, 9, 10, 18, 32]) (.ite (.s 32) (.seq (R [cb 33 (.mv (.s 9)), cb 8 (.tk (.s 33))] [5, 6, 8, 10, 18]) (.ret)) (.skip))) (.seq (R [c0 10 (.newz false [ki .i64 0, kn 1])] [0, 3, 5, 6, 9, 10, 18]) (.seq (.seq (R [c0 11 (.tk (.c (ki .i64 0)))] [0, 3, 5, 6, 9, 10, 11, 18]) (.block 0 (LP [0, 3, 5, 6, 9, 10, 11, 18] (.seq (.seq (R [c0 34 (.mv (.s 11)), c0 35 (.mv (.s 0)), cb 36 (.bin .lss .any (.s 34) (.s 35))] [0, 3, 5, 6, 9, 10, 11, 18, 36]) (.ite (.s 36) (.skip) (.exit 0))) (.seq (.block 1 (R [c0 39 (.mov 1 (.s 10)), c0 40 (.ldx true false 3 (.s 39)), c0 41 (.mv (.s 11)), c0 42 (.bsl 1 [(.s 41)]), c0 43 (.app 1 10 true (.s 40) (.s 42)), c0 44 (.mov 1 (.s 10)), cn (.st 1 (.s 44) (.s 43))] [0, 3, 5, 6, 9, 10, 11, 18])) (R [c0 37 (.mv (.s 11)), c0 38 (.bin .add .any (.s 37) (.c (ki .i64 1))), c0 11 (.tk (.s 38))] [0, 3, 5, 6, 9, 10, 11, 18])))))) (.seq (R [c0 45 (.ld true 2 (.s 10)), c0 46 (.ld true 3 (.s 5)), c0 47 (.ld true 2 (.s 6)), c0 48 (.call none (.c (kf 10)) [(.s 45), (.c (ki .i64 0)), (.s 46), (.s 47)]), c0 12 (.tk (.s 48))] [0, 3, 5, 6, 9, 10, 12, 18]) (.seq (.seq (R [c0 49 (.mv (.s 12)), cb 50 (.bin .eql .ptr (.s 49) (.c (.sc (.pointer none))))] [0, 3, 5, 6, 9, 10, 12, 18, 50]) (.ite (.s 50) (.seq (R [cb 8 (.tk (.c (kb false)))] [5, 6, 8, 10, 18]) (.ret)) (.skip))) (.seq (R [c0 51 (.mv (.s 0)), c0 52 (.mkv 1 3 [kb false] (.s 51) (.s 51)), c0 13 (.tk (.s 52))] [0, 3, 5, 6, 9, 10, 12, 13, 18]) (.seq (R [c0 14 (.tk (.c (ki .i64 0)))] [0, 3, 5, 6, 9, 10, 12, 13, 14, 18]) (.seq (.seq (R [c0 15 (.tk (.c (ki .i64 0)))] [0, 3, 5, 6, 9, 10, 12, 13, 14, 15, 18]) (.block 2 (LP [0, 3, 5, 6, 9, 10, 12, 13, 14, 15, 18] (.seq (.seq (R [c0 53 (.mv (.s 15)), c0 54 (.mv (.s 3)), c0 55 (.len 1 (.s 54)), cb 56 (.bin .lss .any (.s 53) (.s 55))] [0, 3, 5, 6, 9, 10, 12, 13, 14, 15, 18, 56]) (.ite (.s 56) (.skip) (.exit 2))) (.seq (.block 3 (.seq (R [c0 59 (.mv (.s 3)), c0 60 (.mv (.s 15)), c0 61 (.ixp 1 (.s 59) (.s 60)), c0 62 (.ld false 1 (.s 61)), c0 63 (.cvi .i64 (.s 62)), c0 64 (.mv (.s 0)), c0 65 (.bin .rem .any (.s 63) (.s 64)), c0 16 (.tk (.s 65))] [0, 3, 5, 6, 9, 10, 12, 13, 14, 15, 16, 18]) (.seq (.seq (R [c0 66 (.mv (.s 14)), c0 67 (.bin .mul .any (.c (ki .i64 2)) (.s 66)), c0 68 (.mv (.s 0)), cb 69 (.bin .gtr .any (.s 67) (.s 68))] [0, 3, 5, 6, 9, 10, 12, 13, 14, 15, 16, 18, 69]) (.ite (.s 69) (.exit 3) (.skip))) (.seq (R [c0 70 (.mv (.s 12)), c0 71 (.mv (.s 16)), c0 72 (.ld true 3 (.s 5)), c0 73 (.ld true 2 (.s 6)), c0 74 (.bld [ki .i64 0, ki .i64 0, ki .i64 0, ki .i64 0, ki .i64 0, ki .i64 0, ki .i64 0, ki .i64 0, ki .i64 0, ki .i64 0, ki .i64 0, ki .i64 0, ki .i64 0, ki .i64 0, ki .i64 0, ki .i64 0, ks [], ks [], ki .i64 0, ki .i64 0, ki .i64 0, ki .i64 0, kz 3, ki .i64 0, kz 1, kz 3, kz 6] [(0, 1, (.c (ki .i64 6))), (1, 1, (.s 71)), (3, 3, (.s 72)), (6, 2, (.s 73))]), cb 75 (.call none (.c (kf 13)) [(.s 70), (.s 74)]), cb 17 (.tk (.s 75))] [0, 3, 5, 6, 9, 10, 12, 13, 14, 15, 16, 17, 18]) (.seq (.seq (R [c0 76 (.mv (.s 13)), c0 77 (.mv (.s 16)), c0 78 (.ixp 1 (.s 76) (.s 77)), cb 79 (.ld false 1 (.s 78)), cb 80 (.un .not (.s 79))] [0, 3, 5, 6, 9, 10, 12, 13, 14, 15, 16, 17, 18, 80]) (.ite (.s 80) (.seq (R [c0 81 (.mv (.s 13)), c0 82 (.mv (.s 16)), c0 83 (.ixp 1 (.s 81) (.s 82)), cn (.st 1 (.s 83) (.c (kb true)))] [0, 3, 5, 6, 9, 10, 12, 13, 14, 15, 17, 18]) (R [c0 84 (.mv (.s 14)), c0 85 (.bin .add .any (.s 84) (.c (ki .i64 1))), c0 14 (.tk (.s 85))] [0, 3, 5, 6, 9, 10, 12, 13, 14, 15, 17, 18])) (.skip))) (.seq (R [cb 86 (.mv (.s 17)), c0 87 (.mv (.s 14)), c0 88 (.bin .mul .any (.c (ki .i64 2)) (.s 87)), c0 89 (.mv (.s 0)), cb 90 (.bin .gtr .any (.s 88) (.s 89)), cb 91 (.bin .neq .bool (.s 86) (.s 90))] [0, 3, 5, 6, 9, 10, 12, 13, 14, 15, 18, 91]) (.ite (.s 91) (.seq (R [cb 8 (.tk (.c (kb false)))] [5, 6, 8, 10, 18]) (.ret)) (.skip)))))))) (R [c0 57 (.mv (.s 15)), c0 58 (.bin .add .any (.s 57) (.c (ki .i64 1))), c0 15 (.tk (.s 58))] [0, 3, 5, 6, 9, 10, 12, 13, 14, 15, 18])))))) (.seq (R [c0 92 (.mv (.s 12)), c0 93 (.call none (.c (kf 19)) [(.s 92)]), c0 18 (.new false (.c (.agg [ki .i64 0, ki .i64 0, ki .i64 0, ki .i64 0, ki .i64 0, ki .i64 0, ki .i64 0, ki .i64 0, ki .i64 0, ki .i64 0, ki .i64 0, ki .i64 0, ki .i64 0, ki .i64 0, ki .i64 0, ki .i64 0, ks [], ks [], ki .i64 0, ki .i64 0, ki .i64 0, ki .i64 0, kn 3, ki .i64 0, kn 1, kn 3, kn 6]))), cn (.st 27 (.s 18) (.s 93))] [0, 5, 6, 9, 10, 12, 14, 18]) (.seq (.seq (R [c0 94 (.mv (.s 14)), c0 95 (.bin .mul .any (.c (ki .i64 2)) (.s 94)), c0 96 (.mv (.s 0)), cb 97 (.bin .leq .any (.s 95) (.s 96))] [0, 5, 6, 9, 10, 12, 14, 18, 97]) (.ite (.s 97) (.seq (R [cb 98 (.mv (.s 9)), cb 99 (.mv (.s 98)), cg 100 99 true (.mov 0 (.s 18)), cg 101 99 true (.ld false 1 (.s 100)), ch 102 99 true (.bin .eql .any (.s 101) (.c (ki .i64 5))), cb 103 (.pick (.s 99) (.s 102) (.c (kb false))), cb 104 (.mv (.s 103)), cg 105 104 true (.mv (.s 12)), cg 106 104 true (.call none (.c (kf 11)) [(.s 105)]), cg 107 104 true (.len 1 (.s 106)), cg 108 104 true (.mv (.s 0)), cg 109 104 true (.mv (.s 14)), cg 110 104 true (.bin .sub .any (.s 108) (.s 109)), ch 111 104 true (.bin .eql .any (.s 107) (.s 110)), cb 112 (.pick (.s 104) (.s 111) (.c (kb false))), cb 8 (.tk (.s 112))] [5, 6, 8, 10, 18]) (.ret)) (.skip))) (.seq (R (cb 113 (.mv (.s 9)) :: cb 114 (.mv (.s 113)) :: cg 115 114 true (.mov 0 (.s 18)) :: cg 116 114 true (.ld false 1 (.s 115)) :: ch 117 114 true (.bin .eql .any (.s 116) (.c (ki .i64 2))) :: cb 118 (.pick (.s 114) (.s 117) (.c (kb false))) :: cb 119 (.mv (.s 118)) :: cg 120 119 true (.mov 8 (.s 18)) :: cg 121 119 true (.mov 5 (.s 120)) :: cg 122 119 true (.ld true 8 (.s 121)) :: cg 123 119 true (.bld [ki .i64 0, ki .i64 0, ki .i64 0, ks [], ks [], ki .i64 0, ki .i64 0, ki .i64 0] []) :: ch 124 119 true (.bin .eql (.flat [0, 0, 0, 2, 2, 0, 0, 0]) (.s 122) (.s 123)) :: cb 125 (.pick (.s 119) (.s 124) (.c (kb false))) :: cb 126 (.mv (.s 125)) :: cg 127 126 true (.mov 8 (.s 18)) :: cg 128 126 true (.mov 13 (.s 127)) :: cg 129 126 true (.mov 1 (.s 128)) :: cg 130 126 true (.ld false 5 (.s 129)) :: cg 131 126 true (.len 1 (.s 130)) :: ch 132 126 true (.bin .eql .any (.s 131) (.c (ki .i64 0))) :: cb 133 (.pick (.s 126) (.s 132) (.c (kb false))) :: cb 134 (.mv (.s 133)) :: cg 135 134 true (.mov 8 (.s 18)) :: cg 136 134 true (.mov 13 (.s 135)) :: cg 137 134 true (.mov 0 (.s 136)) :: cg 138 134 true (.ld false 1 (.s 137)) :: ch 139 134 true (.bin .eql .any (.s 138) (.c (ki .i64 0))) :: cb 140 (.pick (.s 134) (.s 139) (.c (kb false))) :: cb 141 (.mv (.s 140)) :: cg 142 141 true (.mov 6 (.s 18)) :: cg 143 141 true (.ld true 2 (.s 142)) :: cg 144 141 true (.ld true 2 (.s 6)) :: ch 145 141 true (.bin .eql (.flat [0, 0]) (.s 143) (.s 144)) :: cb 146 (.pick (.s 141) (.s 145) (.c (kb false))) :: cb 8 (.tk (.s 146)) :: []) [5, 6, 8, 10, 18]) (.ret))))))))))))))
theorem fun6 : Fun Try.prog cfg 6 147 cd6 [.s 8] := ⟨rfl, Try.f6, _, Try.func6, rfl, rfl, by kernel_rfl, by kernel_rfl⟩
@[go_sem] theorem ok6 : calleeOK Try.prog 6 = true := by kernel_rfl
@[go_sem] theorem ex6 : (cfg.ext 6).isSome = false := rfl
variable {h : DHeap}
@[go_sem ↓ high] theorem outK_hit {i : Nat} {Q : XD → AF → DHeap → Prop} {a : AF} {h : DHeap} : OutK i Q (.exit i) a h = Q .normal a h := by unfold OutK; simp
theorem vnums_nodesN (n : Nat) : vnums (nodesN n) ++ [[vi (n : Nat)]] = vnums (nodesN (n + 1)) := by rw [nodesN_succ]; simp [vnums]
def RF (n : Nat) (F : List Nat) : List DV := (List.range n).map fun i => kb (decide (i ∈ F))
theorem RF_len (n : Nat) (F : List Nat) : (RF n F).length = n := by simp [RF]
theorem RF_drop {n j : Nat} (F : List Nat) (hj : j < n) : (RF n F).drop j = kb (decide (j ∈ F)) :: (RF n F).drop (j + 1) := by
  rw [List.drop_eq_getElem_cons (by rw [RF_len]; exact hj)]
  simp [RF]
theorem RF_set {n j : Nat} (F : List Nat) (hj : j < n) : (RF n F).take j ++ [kb true] ++ (RF n F).drop (j + 1) = RF n (F ++ [j]) := by
  have h1 : (RF n F).take j ++ [kb true] ++ (RF n F).drop (j + 1) = (RF n F).set j (kb true) := by
    rw [List.set_eq_take_append_cons_drop, if_pos (by rw [RF_len]; exact hj)]; simp
  rw [h1]
  apply List.ext_getElem
  · simp [RF]
  · intro i h2 h3
    rw [List.getElem_set]
    simp only [RF, List.getElem_map, List.getElem_range, List.mem_append, List.mem_singleton]
    by_cases e : j = i
    · rw [if_pos e]; simp [e]
    · rw [if_neg e]
      have : ¬ i = j := fun h => e h.symm
      simp [this]
abbrev HR (L : Ld) (R : List DV) : DHeap := [.cells (cellsL L (votD L)), .row R]
theorem hbHR (L : Ld) (n : Nat) (F : List Nat) : HBl (HR L (RF n F)) := by
  unfold HBl
  rw [List.all_cons, below_L, List.all_cons]
  have : (RF n F).all (below 2) = true := by
    rw [List.all_eq_true]
    intro x hx
    obtain ⟨i, _, rfl⟩ := List.mem_map.1 hx
    rfl
  show (true && ((RF n F).all (below 2) && true)) = true
  rw [this]; rfl
theorem mN_ok (id : Id) (b : Bal) (j : Nat) : MesOK (mN id b j) := ⟨by simp [mN, ins0], by simp [mN, ins0]⟩
theorem LF_W {n : Nat} (id : Id) (b : Bal) (F : List Nat) (r : Bool) (hn : n ≤ 7) (hl : F.length ≤ 8) (hr : r = true → F = []) : LdW 8 (LF n id b F r) := ⟨⟨by show (nodesN n).length ≤ _; rw [nodesN_len]; omega, by show (vF F).length ≤ 8; simp [vF]; omega, by show (0 : Nat) ≤ _; omega, fun v hv => by
    obtain ⟨q, _, rfl⟩ := List.mem_map.1 hv
    simp [ins0]⟩, fun h => by rw [show (LF n id b F r).vo = vF F from rfl, hr h]; rfl⟩
/-- The lead behind what was heard. -/
def LT (n : Nat) (id : Id) (b : Bal) (F : List Nat) (T : Bool) : Ld := if T then turnL (LF n id b F false) 1 ⟨0, 0, 0, [], [], 0, 0, 0⟩ ⟨0, []⟩ else LF n id b F (decide (F = []))
theorem LT_W {n : Nat} (id : Id) (b : Bal) (F : List Nat) (T : Bool) (hn : n ≤ 7) (hl : F.length ≤ 8) : LdW 8 (LT n id b F T) := by
  unfold LT
  split
  · exact ⟨⟨by show (nodesN n).length ≤ _; rw [nodesN_len]; omega, Nat.zero_le _, Nat.zero_le _, fun v hv => by cases hv⟩, fun _ => rfl⟩
  · exact LF_W id b F _ hn hl fun h => of_decide_eq_true h
structure NotP (n : Nat) (F : List Nat) (T : Bool) : Prop where
  nd : F.Nodup
  lt : ∀ i ∈ F, i < n
  t : T = true → n / 2 + 1 ≤ F.length
  f : T = false → F.length ≤ n / 2
theorem nodup_len {n : Nat} : ∀ (F : List Nat), F.Nodup → (∀ i ∈ F, i < n) → F.length ≤ n := fun F hd hF => by
  have h1 := here_F n F hd hF (fun x => decide (x ∈ F.map fun i : Nat => (i : Int))) fun i => by
    rw [Bool.eq_iff_iff, decide_eq_true_iff, decide_eq_true_iff, List.mem_map]
    exact ⟨fun ⟨a, ha, e⟩ => by have : a = i := by omega
                                exact this ▸ ha, fun h => ⟨i, h, rfl⟩⟩
  rw [← h1]
  exact Nat.le_trans (List.length_filter_le _ _) (by rw [nodesN_len]; exact Nat.le_refl _)
theorem hear_T {n j : Nat} (id : Id) (b : Bal) (F : List Nat) (hj : j < n) (P : NotP n F false) :
    hearL (LT n id b F false) (mN id b j) = (!decide (j ∈ F) && decide (n / 2 + 1 ≤ F.length + 1), LT n id b (if j ∈ F then F else F ++ [j]) (!decide (j ∈ F) && decide (n / 2 + 1 ≤ F.length + 1))) := by
  have h := hear_N id b F (decide (F = [])) hj P.nd P.lt
  show hearL (LF n id b F (decide (F = []))) (mN id b j) = _
  rw [h]
  by_cases hjF : j ∈ F
  · rw [if_pos hjF, if_pos hjF, decide_eq_true hjF]; rfl
  · rw [if_neg hjF, if_neg hjF, decide_eq_false hjF]
    by_cases h2 : n / 2 + 1 ≤ F.length + 1
    · rw [if_pos h2, decide_eq_true h2]; rfl
    · rw [if_neg h2, decide_eq_false h2]
      show _ = (false, LF n id b (F ++ [j]) (decide (F ++ [j] = [])))
      rw [decide_eq_false (by simp)]
theorem notP_next {n j : Nat} {F : List Nat} (hj : j < n) (P : NotP n F false) : NotP n (if j ∈ F then F else F ++ [j]) (!decide (j ∈ F) && decide (n / 2 + 1 ≤ F.length + 1)) := by
  by_cases hjF : j ∈ F
  · rw [if_pos hjF, decide_eq_true hjF]; exact P
  · rw [if_neg hjF, decide_eq_false hjF]
    refine ⟨?_, ?_, ?_, ?_⟩
    · rw [List.nodup_append]
      refine ⟨P.nd, by simp, ?_⟩
      intro a ha b hb e
      simp only [List.mem_singleton] at hb
      subst hb; subst e
      exact hjF ha
    · intro i hi
      rcases List.mem_append.1 hi with h | h
      · exact P.lt i h
      · simp only [List.mem_singleton] at h; omega
    · intro h
      simp at h
      simp; omega
    · intro h
      simp at h
      simp; omega
set_option maxHeartbeats 8000000 in
theorem leadNothing_lim (n : Int) (id : Id) (b : Bal) (l : List Nat) (hl256 : ∀ x ∈ l, x < 256) : lim Try.prog cfg 6 [vi n, .agg [vi id.e, vi id.n, vi id.k], .agg [vi b.no, vi b.node], .list false 1 (u8s l)] h = some (vb true, h) := by
  refine lim_funp fun6 rfl (by simp) (by simp [heapFree, heapFree.all, free_u8s]) rfl ?_
  delta cd6
  have w := works16_lim (h := [])
  by_cases c1 : n < 1
  · simp -implicitDefEqProofs -dsimp (maxSteps := 300000) only [go_sem, w, eq_true c1]
  by_cases c2 : 7 < n
  · simp -implicitDefEqProofs -dsimp (maxSteps := 300000) only [go_sem, w, eq_false c1, eq_true c2]
  by_cases c3 : 60 < l.length
  · have c3' : (60 : Int) < ((u8s l).length : Int) := by rw [u8s_len]; omega
    simp -implicitDefEqProofs -dsimp (maxSteps := 300000) only [go_sem, w, eq_false c1, eq_false c2, eq_true c3']
  have c3' : ¬ (60 : Int) < ((u8s l).length : Int) := by rw [u8s_len]; omega
  obtain ⟨n, rfl⟩ : ∃ m : Nat, n = m := ⟨n.toNat, by omega⟩
  simp -implicitDefEqProofs -dsimp (maxSteps := 300000) only [go_sem, w, eq_false c1, eq_false c2, eq_false c3']
  have hn1 : 1 ≤ n := by omega
  have hn7 : n ≤ 7 := by omega
  refine wp_for (σ := Nat) (fun i => [(0, vi (n : Nat)), (3, .list false 1 (u8s l)), (5, .box [vi id.e, vi id.n, vi id.k]), (6, .box [vi b.no, vi b.node]), (9, vb true), (10, .box [vi 0, .list true 1 (vnums (nodesN i))]), (11, vi (i : Nat)), (18, .junk)]) (fun _ => []) (fun i => n - i) (fun i => i ≤ n) 0 (Nat.zero_le _) rfl rfl ?_
  intro i hi N hN
  by_cases hlt : i < n
  · have h1 : (i : Int) < (n : Int) := by omega
    have hN' : N [(0, vi (n : Nat)), (3, .list false 1 (u8s l)), (5, .box [vi id.e, vi id.n, vi id.k]), (6, .box [vi b.no, vi b.node]), (9, vb true), (10, .box [vi 0, .list true 1 (vnums (nodesN i ++ [(i : Int)]))]), (11, vi ((i + 1 : Nat) : Int)), (18, .junk)] [] := by
      rw [← nodesN_succ]
      exact hN (i + 1) _ (by omega) (by omega) rfl
    have hmx : ((nodesN i).length + 1) * 10 ≤ maxLenD := by rw [nodesN_len]; unfold maxLenD; omega
    simp -implicitDefEqProofs -dsimp (maxSteps := 300000) only [go_sem, h1, hmx, wrap_succ (show i < 9223372036854775807 by omega)]
    exact hN'
  have h1 : ¬ (i : Int) < (n : Int) := by omega
  have hin : i = n := by omega
  subst hin
  clear hN hi hlt
  have n1 : lim Try.prog cfg 10 [.agg [vi 0, .list false 1 (vnums (nodesN i))], vi 0, .agg [vi id.e, vi id.n, vi id.k], .agg [vi b.no, vi b.node]] [] = some (.ptr 0 0, HL (LT i id b [] false)) := takeHL_lim ⟨0, nodesN i⟩ 0 id b (by show (nodesN i).length ≤ _; rw [nodesN_len]; omega)
  have hmk : i * 3 ≤ maxLenD := by unfold maxLenD; omega
  have hrow : (HL (LT i id b [] false)).length = 1 := rfl
  have hrep : HL (LT i id b [] false) ++ [.row (List.replicate i [kb false]).flatten] = HR (LT i id b [] false) (RF i []) := by
    have : (List.replicate i [kb false]).flatten = RF i [] := by rw [List.flatten_replicate_singleton]; simp [RF, List.map_const']
    rw [this]; rfl
  simp -implicitDefEqProofs -dsimp (maxSteps := 300000) only [go_sem, h1, n1, hmk, hrow, hrep, Int.toNat_natCast, show (0 : Int) ≤ (i : Int) from by omega]
  clear n1 h1 hmk hrow
  refine wp_for (σ := Nat × List Nat × Bool) (fun s => [(0, vi (i : Nat)), (3, .list false 1 (u8s l)), (5, .box [vi id.e, vi id.n, vi id.k]), (6, .box [vi b.no, vi b.node]), (9, vb true), (10, .box [vi 0, .list true 1 (vnums (nodesN i))]), (12, .ptr 0 0), (13, .vec 1 1 0 i), (14, vi (s.2.1.length : Nat)), (15, vi (s.1 : Nat)), (18, .junk)]) (fun s => HR (LT i id b s.2.1 s.2.2) (RF i s.2.1)) (fun s => l.length - s.1) (fun s => s.1 ≤ l.length ∧ NotP i s.2.1 s.2.2) (0, [], false) ⟨Nat.zero_le _, ⟨List.nodup_nil, by simp, by simp, by simp⟩⟩ rfl hrep ?_
  rintro ⟨q, F, T⟩ ⟨hq, hP⟩ N hN
  dsimp only at hq hP
  have hFl : F.length ≤ 7 := Nat.le_trans (nodup_len F hP.nd hP.lt) hn7
  have wm : IntKind.wrap .i64 (2 * (F.length : Int)) = 2 * (F.length : Int) := wrap64 (by omega) (by omega)
  by_cases hlt : q < l.length
  case pos =>
    have f1 : (q : Int) < ((u8s l).length : Int) := by rw [u8s_len]; omega
    have qi := fun N => u8s_at hlt N
    have hx := hl256 _ (List.getElem_mem hlt)
    have wc : IntKind.wrap .i64 (l[q] : Int) = (l[q] : Int) := wrap64 (by omega) (by omega)
    have hn0 : ((i : Int) = 0) = False := eq_false (by omega)
    have hmod : (l[q] : Int).tmod (i : Int) = ((l[q] % i : Nat) : Int) := by rw [Int.tmod_eq_emod_of_nonneg (by omega)]; rfl
    have ws := wrap_succ (show q < 9223372036854775807 by omega)
    have hji : l[q] % i < i := Nat.mod_lt _ (by omega)
    generalize l[q] % i = j at *
    cases T with
    | true =>
      have hT := hP.t rfl
      have hk : (i : Int) < 2 * (F.length : Int) := by omega
      have hN' : N [(0, vi (i : Nat)), (3, .list false 1 (u8s l)), (5, .box [vi id.e, vi id.n, vi id.k]), (6, .box [vi b.no, vi b.node]), (9, vb true), (10, .box [vi 0, .list true 1 (vnums (nodesN i))]), (12, .ptr 0 0), (13, .vec 1 1 0 i), (14, vi (F.length : Nat)), (15, vi ((q + 1 : Nat) : Int)), (18, .junk)] (HR (LT i id b F true) (RF i F)) := hN (q + 1, F, true) _ (by dsimp only; omega) ⟨by dsimp only; omega, hP⟩ rfl
      generalize HR (LT i id b F true) (RF i F) = H0 at *
      clear hN
      simp -implicitDefEqProofs -dsimp (maxSteps := 300000) only [go_sem, ↓qi, f1, wc, hn0, hmod, wm, eq_true hk, ws]
      exact hN'
    | false =>
      have hT := hP.f rfl
      have hk : ¬ (i : Int) < 2 * (F.length : Int) := by omega
      have W := LT_W id b F false hn7 (by omega)
      have HA : AtL (HR (LT i id b F false) (RF i F)) 0 (LT i id b F false) := ⟨rfl, W.nil⟩
      have e := hearL_lim HA W.ok (by omega) (hbHR _ i F) (mN id b j) (mN_ok id b j)
      rw [hear_T id b F hji hP] at e
      have hnP := notP_next hji hP
      have hji' : (j : Int) < (i : Int) := by omega
      have hj0 : (0 : Int) ≤ (j : Int) := by omega
      have hR : ∀ L R N, RowO (HR L R) 1 N = N R := fun _ _ _ => rfl
      have hset : ∀ L R R', (HR L R).set 1 (.row R') = HR L R' := fun _ _ _ => rfl
      have hdr := RF_drop F hji
      by_cases hjF : j ∈ F
      · rw [decide_eq_true hjF] at hdr e hnP
        rw [if_pos hjF] at e hnP
        have e : lim Try.prog cfg 13 [.ptr 0 0, .agg [vi 6, vi (j : Nat), vi 0, vi id.e, vi id.n, vi id.k, vi b.no, vi b.node, vi 0, vi 0, vi 0, vi 0, vi 0, vi 0, vi 0, vi 0, vs [], vs [], vi 0, vi 0, vi 0, vi 0, .list false 3 [], vi 0, .list false 1 [], .list false 3 [], .list false 6 []]] (HR (LT i id b F false) (RF i F)) = some (vb false, HR (LT i id b F false) (RF i F)) := e
        have hN' : N [(0, vi (i : Nat)), (3, .list false 1 (u8s l)), (5, .box [vi id.e, vi id.n, vi id.k]), (6, .box [vi b.no, vi b.node]), (9, vb true), (10, .box [vi 0, .list true 1 (vnums (nodesN i))]), (12, .ptr 0 0), (13, .vec 1 1 0 i), (14, vi (F.length : Nat)), (15, vi ((q + 1 : Nat) : Int)), (18, .junk)] (HR (LT i id b F false) (RF i F)) := hN (q + 1, F, false) _ (by dsimp only; omega) ⟨by dsimp only; omega, hP⟩ rfl
        generalize LT i id b F false = L0 at *
        simp -implicitDefEqProofs -dsimp (maxSteps := 300000) only [go_sem, ↓qi, f1, wc, hn0, hmod, wm, hk, ws, e, hR, hdr, hji', hj0, Int.toNat_natCast, Nat.zero_add, Nat.mul_one]
        exact hN'
      · rw [decide_eq_false hjF] at hdr e hnP
        rw [if_neg hjF] at e hnP
        simp only [Bool.not_false, Bool.true_and] at e hnP
        have e : lim Try.prog cfg 13 [.ptr 0 0, .agg [vi 6, vi (j : Nat), vi 0, vi id.e, vi id.n, vi id.k, vi b.no, vi b.node, vi 0, vi 0, vi 0, vi 0, vi 0, vi 0, vi 0, vi 0, vs [], vs [], vi 0, vi 0, vi 0, vi 0, .list false 3 [], vi 0, .list false 1 [], .list false 3 [], .list false 6 []]] (HR (LT i id b F false) (RF i F)) = some (vb (decide (i / 2 + 1 ≤ F.length + 1)), HR (LT i id b (F ++ [j]) (decide (i / 2 + 1 ≤ F.length + 1))) (RF i F)) := e
        have hN' : N [(0, vi (i : Nat)), (3, .list false 1 (u8s l)), (5, .box [vi id.e, vi id.n, vi id.k]), (6, .box [vi b.no, vi b.node]), (9, vb true), (10, .box [vi 0, .list true 1 (vnums (nodesN i))]), (12, .ptr 0 0), (13, .vec 1 1 0 i), (14, vi (F.length + 1 : Nat)), (15, vi ((q + 1 : Nat) : Int)), (18, .junk)] (HR (LT i id b (F ++ [j]) (decide (i / 2 + 1 ≤ F.length + 1))) (RF i (F ++ [j]))) := hN (q + 1, F ++ [j], decide (i / 2 + 1 ≤ F.length + 1)) _ (by dsimp only; omega) ⟨by dsimp only; omega, hnP⟩ (by show _ = _; simp only [List.length_append, List.length_singleton]; rfl)
        rw [← RF_set F hji] at hN'
        have hle : j + 1 ≤ (RF i F).length := by rw [RF_len]; omega
        have ws2 := wrap_succ (show F.length < 9223372036854775807 by omega)
        have wm2 : IntKind.wrap .i64 (2 * ((F.length + 1 : Nat) : Int)) = 2 * ((F.length + 1 : Nat) : Int) := wrap64 (by omega) (by omega)
        by_cases h2 : i / 2 + 1 ≤ F.length + 1
        · rw [decide_eq_true h2] at e hN'
          have hk2 : (i : Int) < 2 * ((F.length + 1 : Nat) : Int) := by omega
          generalize LT i id b F false = L0 at *
          generalize LT i id b (F ++ [j]) true = L1 at *
          simp -implicitDefEqProofs -dsimp (maxSteps := 300000) only [go_sem, ↓qi, f1, wc, hn0, hmod, wm, wm2, hk, hk2, ws, ws2, e, hR, hset, hdr, hle, hji', hj0, Int.toNat_natCast, Nat.zero_add, Nat.mul_one]
          exact hN'
        · rw [decide_eq_false h2] at e hN'
          have hk2 : ¬ (i : Int) < 2 * ((F.length + 1 : Nat) : Int) := by omega
          generalize LT i id b F false = L0 at *
          generalize LT i id b (F ++ [j]) false = L1 at *
          simp -implicitDefEqProofs -dsimp (maxSteps := 300000) only [go_sem, ↓qi, f1, wc, hn0, hmod, wm, wm2, hk, hk2, ws, ws2, e, hR, hset, hdr, hle, hji', hj0, Int.toNat_natCast, Nat.zero_add, Nat.mul_one]
          exact hN'
  have f1 : ¬ (q : Int) < ((u8s l).length : Int) := by rw [u8s_len]; omega
  clear hN
  have W := LT_W id b F T hn7 (by omega)
  have HA : AtL (HR (LT i id b F T) (RF i F)) 0 (LT i id b F T) := ⟨rfl, W.nil⟩
  have ea := ask_lim HA (by have := W.ok.att; omega)
  have ew := wait_lim HA W.ok.nodes (by have := W.ok.vo; omega)
  cases T with
  | true =>
    have hT := hP.t rfl
    have hk : ¬ (2 * (F.length : Int) ≤ (i : Int)) := by omega
    have ea : lim Try.prog cfg 19 [.ptr 0 0] (HR (LT i id b F true) (RF i F)) = some (.agg [vi 2, vi 0, vi 0, vi id.e, vi id.n, vi id.k, vi b.no, vi b.node, vi 0, vi 0, vi 0, vi 0, vi 0, vi 0, vi 0, vi 0, vs [], vs [], vi 0, vi 0, vi 0, vi 0, .list false 3 [], vi 0, .list false 1 [], .list false 3 [], .list false 6 []], HR (LT i id b F true) (RF i F)) := ea
    generalize LT i id b F true = L0 at *
    generalize HR L0 (RF i F) = H0 at *
    simp -implicitDefEqProofs -dsimp (maxSteps := 300000) only [go_sem, f1, ea, wm, hk]
  | false =>
    have hT := hP.f rfl
    have hk : 2 * (F.length : Int) ≤ (i : Int) := by omega
    have ea : lim Try.prog cfg 19 [.ptr 0 0] (HR (LT i id b F false) (RF i F)) = some (.agg [vi 5, vi 0, vi 0, vi id.e, vi id.n, vi id.k, vi b.no, vi b.node, vi 0, vi 0, vi 0, vi 0, vi 0, vi 0, vi 0, vi 0, vs [], vs [], vi 0, vi 0, vi 0, vi 0, .list false 3 [], vi 0, .list false 1 [], .list false 3 [], .list false 6 []], HR (LT i id b F false) (RF i F)) := ea
    have hwl : (waitL (LT i id b F false)).length = i - F.length := wait_F i id b F _ hP.nd hP.lt
    have wsb : IntKind.wrap .i64 ((i : Int) - (F.length : Int)) = (i : Int) - (F.length : Int) := wrap64 (by omega) (by omega)
    have hwl' : ((waitL (LT i id b F false)).length : Int) = (i : Int) - (F.length : Int) := by omega
    generalize LT i id b F false = L0 at *
    generalize waitL L0 = wl at *
    generalize HR L0 (RF i F) = H0 at *
    simp -implicitDefEqProofs -dsimp (maxSteps := 300000) only [go_sem, f1, ea, ew, wm, wsb, hwl', hk]
end Go.DS

/-
  The row LeadNothing.
-/
namespace Go.Proofs.Ytpbknejlalkfjaa.leadNothing
open Go.ChangeShapes Go.WideShapes Go.ChangeAt Go.RowKit
open Go.ChangeMaps (open_string shut_string)
open Go.DS
set_option linter.unusedVariables false
set_option linter.unusedSimpArgs false

set_option maxRecDepth 100000 in
theorem contract (H : Type) (enc : TypeId × Value → H) (W : World) (base : Nat) (args : Array Value) (ds gs : List (DataW H)) (before : List MemPlace)
    (hval0 : ∀ (j : Nat) t v, Try.f6.params[j]? = some t → args[j]? = some v → Value.okWide Try.prog W .any base t v)
    (hW : DataW.Whole enc Try.prog Try.f6.params.toList Rows.leadNothingSpec.vars false W args.toList ds gs before) (hk : Rows.uptoSmall H (ds ++ gs) = true) :
    Calls Try.prog 6 args W fun e W' => ∃ v, e = .returned v ∧ Rows.leadNothingSpec.post enc Try.prog Try.f6 false true false false W args v W' := by
  have hval : ∀ (j : Nat) t v, Try.f6.params[j]? = some t → args[j]? = some v → Value.okWide Try.prog W .any base t v := hval0
  have hW' := hW
  obtain ⟨p, q, hA0, hV, rfl, hfz, hnd⟩ := hW
  have hA : DataW.TrodAll enc Try.prog W 0 (fun _ => true) true Try.f6.params.toList args.toList ds p := hA0
  rw [Try.params6] at hA hval
  obtain ⟨v0, vs0, d0, ds0, p0, q0, hargs, rfl, rfl, h0, r0⟩ := trodAll_cons hA
  obtain ⟨v1, vs1, d1, ds1, p1, q1, rfl, rfl, rfl, h1, r1⟩ := trodAll_cons r0
  obtain ⟨v2, vs2, d2, ds2, p2, q2, rfl, rfl, rfl, h2, r2⟩ := trodAll_cons r1
  obtain ⟨v3, vs3, d3, ds3, p3, q3, rfl, rfl, rfl, h3, r3⟩ := trodAll_cons r2
  obtain ⟨rfl, rfl, rfl⟩ := trodAll_nil r3
  obtain rfl : args = #[v0, v1, v2, v3] := by cases args; simp_all
  obtain ⟨rfl, rfl⟩ := trodVars_none hV
  have lt0 : ∀ x ∈ p0, x.block < W.heap.size := by obtain ⟨m, hm⟩ := h0; exact DataW.trod_lt m _ _ _ hm
  have k0 := h0
  obtain ⟨a0, rfl, rfl, rfl, y0⟩ := open_int Try.underlying3 (hval 0 3 v0 rfl rfl) h0
  have lt1 : ∀ x ∈ p1, x.block < W.heap.size := by obtain ⟨m, hm⟩ := h1; exact DataW.trod_lt m _ _ _ hm
  have k1 := h1
  obtain ⟨a1, y1, b1⟩ := arg_id (B := 1048575) (hval 1 27 v1 rfl rfl) h1 (by have hb := of_decide_eq_true hk; simp only [Rows.uptoBulkAll, List.append_nil, List.cons_append, List.nil_append] at hb; omega)
  have lt2 : ∀ x ∈ p2, x.block < W.heap.size := by obtain ⟨m, hm⟩ := h2; exact DataW.trod_lt m _ _ _ hm
  have k2 := h2
  obtain ⟨a2, y2, b2⟩ := arg_bal (B := 1048575) (hval 2 29 v2 rfl rfl) h2 (by have hb := of_decide_eq_true hk; simp only [Rows.uptoBulkAll, List.append_nil, List.cons_append, List.nil_append] at hb; omega)
  have lt3 : ∀ x ∈ p3, x.block < W.heap.size := by obtain ⟨m, hm⟩ := h3; exact DataW.trod_lt m _ _ _ hm
  have k3 := h3
  obtain ⟨a3, y3, b3⟩ := arg_u8s (B := 1048575) (hval 3 63 v3 rfl rfl) h3 (by have hb := of_decide_eq_true hk; simp only [Rows.uptoBulkAll, List.append_nil, List.cons_append, List.nil_append] at hb; omega)
  clear hA0 hval0
  have hb := of_decide_eq_true hk
  simp only [Rows.uptoBulkAll, Rows.uptoBulk, List.append_nil] at hb
  refine (Go.DS.start ext_ok (leadNothing_lim a0 a1 a2 a3 b3.2) W (vs := #[.int .i64 a0, v1, v2, v3]) (.cons (.sc _) (.cons (y1) (.cons (y2) (.cons (y3) (.nil _)))))).mono fun e W' ⟨he, bel⟩ => ?_
  subst he
  exact ⟨_, rfl, _, _, _, [], _, [], hW', trodAll_mk1 (shut_bool Try.underlying4 _), (trodAll_cons_mk (Below.trod laidOut' (by kernel_rfl) (of_decide_eq_true (by kernel_rfl)) k0 bel lt0) (trodAll_cons_mk (Below.trod laidOut' (by kernel_rfl) (of_decide_eq_true (by kernel_rfl)) k1 bel lt1) (trodAll_cons_mk (Below.trod laidOut' (by kernel_rfl) (of_decide_eq_true (by kernel_rfl)) k2 bel lt2) (trodAll_cons_mk (Below.trod laidOut' (by kernel_rfl) (of_decide_eq_true (by kernel_rfl)) k3 bel lt3) trodAll_mk0)))), rfl, bel.frame _, fun h => by cases h⟩

set_option maxRecDepth 100000 in
theorem lifted (os : Os) (started : os.Started) (H : Type) (enc : TypeId × Value → H) (F : Stop.Interp) :
    ReturnsInHanded {} Try.checked os 6 .any ((Rows.OpenSpec.upto Rows.leadNothingSpec).pre6 enc Try.prog Try.f6 Rows.leadNothingUptoRow.domain false) (((Rows.OpenSpec.upto Rows.leadNothingSpec).at F).post enc Try.prog Try.f6 false true false false) := by
  refine returnsInHanded_of_cond (C := Try.checked) (s := Rows.OpenSpec.upto Rows.leadNothingSpec) (k := Rows.uptoSmall) rfl own' started (by kernel_rfl) Try.func6
    (OpenSpec.witness (enc := enc) (C := Try.checked) (s := Rows.OpenSpec.upto Rows.leadNothingSpec) (k := Rows.uptoSmall) rfl false ⟨#[], #[.int .i64 0, .agg #[.int .i64 0, .int .i64 0, .int .i64 0], .agg #[.int .i64 0, .int .i64 0], .slice none 0 0], []⟩ 8 (by kernel_rfl) (by kernel_rfl) (by kernel_rfl)
      (x := ([.lit (.int .i64 0), .agg [.lit (.int .i64 0), .lit (.int .i64 0), .lit (.int .i64 0)], .agg [.lit (.int .i64 0), .lit (.int .i64 0)], .nil], [], [])) (by kernel_rfl) rfl (by kernel_rfl)) ?_
  intro W base args ds gs before hval hW _ hk _
  exact contract H enc W base args ds gs before hval hW hk

theorem over : Rows.leadNothingUptoRow.holds Try.pinned (Rows.OpenSpec.upto Rows.leadNothingSpec) :=
  OpenClaim.holds_of_cond 6 Try.f6 rfl rfl rfl rfl rfl rfl rfl ⟨rfl, rfl, rfl, rfl, rfl⟩ rfl rfl rfl rfl rfl (by kernel_rfl) Try.func6 (by kernel_rfl)
    (of_decide_eq_true (by kernel_rfl)) (by unfold Func.isWrapper; first | (rw [if_pos (by decide +kernel)]; kernel_rfl) | (rw [if_neg (by decide +kernel)]; exact ⟨rfl, rfl⟩))
    (fun os started H enc _ F => lifted os started H enc F)

theorem proved : Rows.LeadNothingUptoSaid := over
#print axioms proved
end Go.Proofs.Ytpbknejlalkfjaa.leadNothing
namespace Go.Proofs.Ytpbknejlalkfjaa
theorem leadNothing_holds : Rows.LeadNothingUptoSaid := leadNothing.proved
end Go.Proofs.Ytpbknejlalkfjaa
