/-
  Paths have an order.
-/
import Derived.Test.YtejkkmiaffbjbaaH6
import Derived.Test.YtejkkmiaffbjbaaRows
import Derived.WalkKit
import Derived.ProofKit
import Derived.Deep.Strs
import Derived.OpenShut
import Derived.ShutString
import Derived.ChangeOld
import Derived.Below
import Derived.JoinedCond
import Derived.Carry
set_option linter.unusedSimpArgs false
set_option linter.unusedVariables false
namespace Go.DS
open Go

structure Good {α : Type} (F : α → α → Int) : Prop where
  eq : ∀ a b, F a b = 0 ↔ a = b
  anti : ∀ a b, F a b < 0 ↔ 0 < F b a
  trans : ∀ a b c, F a b < 0 → F b c < 0 → F a c < 0

theorem good_cmpF {α : Type} {F : α → α → Int} (g : Good F) : Good (cmpF F) where
  eq := by
    intro l
    induction l with
    | nil => intro m; cases m <;> simp [cmpF]
    | cons a l ih =>
      intro m
      cases m with
      | nil => simp [cmpF]
      | cons b m =>
        simp only [cmpF, List.cons.injEq]
        split
        · rename_i h
          have : a ≠ b := fun e => h ((g.eq a b).2 e)
          simp [h, this]
        · rename_i h
          simp only [ne_eq, Decidable.not_not] at h
          rw [(g.eq a b).1 h, ih]
          simp
  anti := by
    intro l
    induction l with
    | nil => intro m; cases m <;> simp [cmpF]
    | cons a l ih =>
      intro m
      cases m with
      | nil => simp [cmpF]
      | cons b m =>
        simp only [cmpF]
        by_cases h : F a b = 0
        · have h2 : F b a = 0 := (g.eq b a).2 ((g.eq a b).1 h).symm
          simp [h, h2, ih]
        · have h2 : F b a ≠ 0 := fun e => h ((g.eq a b).2 ((g.eq b a).1 e).symm)
          simp [h, h2, g.anti]
  trans := by
    intro l
    induction l with
    | nil =>
      intro m n h1 h2
      cases m <;> cases n <;> simp [cmpF] at *
    | cons a l ih =>
      intro m n h1 h2
      cases m with
      | nil => simp [cmpF] at h1
      | cons b m =>
        cases n with
        | nil => simp [cmpF] at h2
        | cons c n =>
          simp only [cmpF] at h1 h2 ⊢
          by_cases hab : F a b = 0
          · have := (g.eq a b).1 hab
            subst this
            by_cases hbc : F a c = 0
            · have := (g.eq a c).1 hbc
              subst this
              simp only [hab, ne_eq, not_true_eq_false, if_false] at h1 h2 ⊢
              exact ih m n h1 h2
            · simp only [ne_eq, hbc, not_false_eq_true, if_true] at h2 ⊢
              exact h2
          · simp only [ne_eq, hab, not_false_eq_true, if_true] at h1
            by_cases hbc : F b c = 0
            · have := (g.eq b c).1 hbc
              subst this
              simp only [ne_eq, hab, not_false_eq_true, if_true]
              exact h1
            · simp only [ne_eq, hbc, not_false_eq_true, if_true] at h2
              have hac := g.trans a b c h1 h2
              have : F a c ≠ 0 := by omega
              simp only [ne_eq, this, not_false_eq_true, if_true]
              exact hac

def cmpU (a b : UInt8) : Int := if a < b then -1 else if b < a then 1 else 0
theorem good_cmpU : Good cmpU where
  eq a b := by
    unfold cmpU
    by_cases h1 : a < b
    · have : a ≠ b := fun e => by subst e; exact absurd h1 (UInt8.lt_irrefl a)
      simp [h1, this]
    · by_cases h2 : b < a
      · have : a ≠ b := fun e => by subst e; exact absurd h2 (UInt8.lt_irrefl a)
        simp [h1, h2, this]
      · have : a = b := UInt8.le_antisymm (UInt8.not_lt.1 h2) (UInt8.not_lt.1 h1)
        simp [this]
  anti a b := by
    unfold cmpU
    by_cases h1 : a < b
    · have h2 : ¬ b < a := fun h => absurd (UInt8.lt_trans h1 h) (UInt8.lt_irrefl a)
      simp [h1, h2]
    · by_cases h2 : b < a <;> simp [h1, h2]
  trans a b c h1 h2 := by
    unfold cmpU at *
    have g1 : a < b := by
      by_cases h : a < b
      · exact h
      · simp [h] at h1; split at h1 <;> omega
    have g2 : b < c := by
      by_cases h : b < c
      · exact h
      · simp [h] at h2; split at h2 <;> omega
    simp [UInt8.lt_trans g1 g2]
theorem cmpB_F : ∀ (s u : Str), Lib.compareBytes s u = cmpF cmpU s u
  | [], [] => rfl
  | [], _ :: _ => rfl
  | _ :: _, [] => rfl
  | a :: x, b :: y => by
    simp only [Lib.compareBytes, cmpF, cmpU, cmpB_F x y]
    by_cases h1 : a < b
    · simp [h1]
    · by_cases h2 : b < a <;> simp [h1, h2]
theorem good_B : Good Lib.compareBytes := by
  have : Lib.compareBytes = cmpF cmpU := by funext s u; exact cmpB_F s u
  rw [this]
  exact good_cmpF good_cmpU
/-- The order of names. -/
abbrev cmpN : List Str → List Str → Int := cmpF Lib.compareBytes
theorem good_N : Good cmpN := good_cmpF good_B
theorem cmpN_pre : ∀ (a c : List Str), c ≠ [] → cmpN a (a ++ c) < 0
  | [], [], h => absurd rfl h
  | [], _ :: _, _ => by simp [cmpN, cmpF]
  | x :: a, c, h => by
    have := cmpN_pre a c h
    simp only [cmpN, List.cons_append, cmpF] at this ⊢
    rw [if_neg (by simp [(good_B.eq x x).2 rfl])]
    exact this
theorem path_inj {p q : Str} {a : List Str} (h1 : parse p = some a) (h2 : parse q = some a) : p = q := (parse_some h1).2.trans (parse_some h2).2.symm
theorem less_eq {p q : Str} {a b : List Str} (h1 : parse p = some a) (h2 : parse q = some b) : lessP p q = decide (cmpN a b < 0) := by simp only [lessP, h1, h2]
theorem below_eq {p q : Str} {a b : List Str} (h1 : parse p = some a) (h2 : parse q = some b) : belowP p q = (decide (a.length < b.length) && decide (a = b.take a.length)) := by simp only [belowP, h1, h2]
theorem below_iff {p q : Str} {a b : List Str} (h1 : parse p = some a) (h2 : parse q = some b) : belowP p q = true ↔ ∃ c, c ≠ [] ∧ b = a ++ c := by
  rw [below_eq h1 h2, Bool.and_eq_true, decide_eq_true_iff, decide_eq_true_iff]
  constructor
  · rintro ⟨h3, h4⟩
    refine ⟨b.drop a.length, fun e => ?_, ?_⟩
    · have := congrArg List.length e; simp at this; omega
    · conv => rhs; lhs; rw [h4]
      exact (List.take_append_drop _ _).symm
  · rintro ⟨c, hc, rfl⟩
    have := List.length_pos_iff.2 hc
    exact ⟨by simp; omega, by simp⟩
end Go.DS

/-
  Walks: the laws of paths.
-/
namespace Go.DS
open Go Go.Proofs
set_option maxRecDepth 100000
set_option linter.unusedVariables false
set_option linter.unusedSimpArgs false
def cd16 : Cd := .seq (R [cb 4 (.tk (.c (kb false)))] [0, 1]) (.seq (.seq (R [c0 6 (.mv (.s 0)), c0 7 (.len 1 (.s 6)), c0 8 (.mv (.s 1)), c0 9 (.len 1 (.s 8)), cb 10 (.bin .neq .any (.s 7) (.s 9))] [0, 1, 10]) (.ite (.s 10) (.seq (R [cb 4 (.tk (.c (kb false)))] [4]) (.ret)) (.skip))) (.seq (.seq (R [c0 5 (.tk (.c (ki .i64 0)))] [0, 1, 5]) (.block 0 (LP [0, 1, 5] (.seq (.seq (R [c0 11 (.mv (.s 5)), c0 12 (.mv (.s 0)), c0 13 (.len 1 (.s 12)), cb 14 (.bin .lss .any (.s 11) (.s 13))] [0, 1, 5, 14]) (.ite (.s 14) (.skip) (.exit 0))) (.seq (.block 1 (.seq (RD [cd (some 17) false none (.mv (.s 0)) false false [0], cd (some 18) false none (.mv (.s 5)) false false [5], cd (some 19) false none (.ixp 1 (.s 17) (.s 18)) false false [17, 18], cd (some 20) false none (.ld false 1 (.s 19)) false false [19], cd (some 21) false none (.mv (.s 1)) false false [1], cd (some 22) false none (.mv (.s 5)) false false [5], cd (some 23) false none (.ixp 1 (.s 21) (.s 22)) false false [21, 22], cd (some 24) false none (.ld false 1 (.s 23)) false false [23], cd (some 25) true none (.bin .neq .any (.s 20) (.s 24)) false false [20, 24]] [0, 1, 5, 25] []) (.ite (.s 25) (.seq (R [cb 4 (.tk (.c (kb false)))] [4]) (.ret)) (.skip)))) (R [c0 15 (.mv (.s 5)), c0 16 (.bin .add .any (.s 15) (.c (ki .i64 1))), c0 5 (.tk (.s 16))] [0, 1, 5])))))) (.seq (R [cb 4 (.tk (.c (kb true)))] [4]) (.ret))))
theorem fun16 : Fun Try.prog cfg 16 26 cd16 [.s 4] := ⟨rfl, Try.f16, _, Try.func16, rfl, rfl, by kernel_rfl, by kernel_rfl⟩
@[go_sem] theorem ok16 : calleeOK Try.prog 16 = true := by kernel_rfl
@[go_sem] theorem ex16 : (cfg.ext 16).isSome = false := rfl
def cd3 : Cd := .seq (R [cb 4 (.tk (.c (kb false)))] [0, 1]) (.seq (R [cb 6 (.call none (.c (kf 13)) []), cb 5 (.tk (.s 6))] [0, 1, 5]) (.seq (.seq (R [cb 7 (.mv (.s 5)), cb 8 (.un .not (.s 7))] [0, 1, 5, 8]) (.ite (.s 8) (.seq (R [cb 4 (.tk (.c (kb false)))] [4]) (.ret)) (.skip))) (.seq (.seq (R [c0 9 (.mv (.s 0)), c0 10 (.len 0 (.s 9)), cb 11 (.bin .gtr .any (.s 10) (.c (ki .i64 300))), cb 12 (.mv (.s 11)), cg 13 12 false (.mv (.s 1)), cg 14 12 false (.len 0 (.s 13)), ch 15 12 false (.bin .gtr .any (.s 14) (.c (ki .i64 300))), cb 16 (.pick (.s 12) (.c (kb true)) (.s 15))] [0, 1, 5, 16]) (.ite (.s 16) (.seq (R [cb 17 (.tk (.s 5)), cb 4 (.tk (.s 17))] [4]) (.ret)) (.skip))) (.seq (R [cb 18 (.mv (.s 5)), cb 19 (.mv (.s 18)), cg 20 19 true (.mv (.s 0)), ch 21 19 true (.call none (.c (kf 14)) [(.s 20)]), cg 22 19 true (.mv (.s 0)), ch 23 19 true (.call none (.c (kf 15)) [(.s 22)]), ch 24 19 true (.bin .eql .bool (.s 21) (.s 23)), cb 25 (.pick (.s 19) (.s 24) (.c (kb false))), cb 26 (.mv (.s 25)), cg 27 26 true (.mv (.s 0)), cg 28 26 true (.call none (.c (kf 17)) [(.s 27)]), cg 29 26 true (.mv (.s 0)), cg 30 26 true (.call none (.c (kf 18)) [(.s 29)]), ch 31 26 true (.call none (.c (kf 16)) [(.s 28), (.s 30)]), cb 32 (.pick (.s 26) (.s 31) (.c (kb false))), cb 33 (.mv (.s 32)), cg 34 33 true (.mv (.s 0)), cg 35 33 true (.call none (.c (kf 19)) [(.s 34)]), cg 36 33 true (.mv (.s 0)), cg 37 33 true (.call none (.c (kf 20)) [(.s 36)]), ch 38 33 true (.bin .eql .any (.s 35) (.s 37)), cb 39 (.pick (.s 33) (.s 38) (.c (kb false))), cb 40 (.mv (.s 39)), cg 41 40 true (.mv (.s 0)), cg 42 40 true (.call none (.c (kf 21)) [(.s 41)]), cg 43 40 true (.mv (.s 0)), cg 44 40 true (.call none (.c (kf 22)) [(.s 43)]), ch 45 40 true (.bin .eql .any (.s 42) (.s 44)), cb 46 (.pick (.s 40) (.s 45) (.c (kb false))), cb 47 (.mv (.s 46)), cg 48 47 true (.mv (.s 0)), cg 49 47 true (.call none (.c (kf 23)) [(.s 48)]), cg 50 47 true (.mv (.s 0)), cg 51 47 true (.call none (.c (kf 24)) [(.s 50)]), ch 52 47 true (.bin .eql .any (.s 49) (.s 51)), cb 53 (.pick (.s 47) (.s 52) (.c (kb false))), cb 54 (.mv (.s 53)), cg 55 54 true (.mv (.s 0)), cg 56 54 true (.mv (.s 1)), ch 57 54 true (.call none (.c (kf 25)) [(.s 55), (.s 56)]), cg 58 54 true (.mv (.s 0)), cg 59 54 true (.mv (.s 1)), ch 60 54 true (.call none (.c (kf 26)) [(.s 58), (.s 59)]), ch 61 54 true (.bin .eql .bool (.s 57) (.s 60)), cb 62 (.pick (.s 54) (.s 61) (.c (kb false))), cb 63 (.mv (.s 62)), cg 64 63 true (.mv (.s 0)), cg 65 63 true (.mv (.s 1)), ch 66 63 true (.call none (.c (kf 27)) [(.s 64), (.s 65)]), cg 67 63 true (.mv (.s 0)), cg 68 63 true (.mv (.s 1)), ch 69 63 true (.call none (.c (kf 28)) [(.s 67), (.s 68)]), ch 70 63 true (.bin .eql .bool (.s 66) (.s 69)), cb 71 (.pick (.s 63) (.s 70) (.c (kb false))), cb 4 (.tk (.s 71))] [4]) (.ret)))))
theorem fun3 : Fun Try.prog cfg 3 72 cd3 [.s 4] := ⟨rfl, Try.f3, _, Try.func3, rfl, rfl, by kernel_rfl, by kernel_rfl⟩
@[go_sem] theorem ok3 : calleeOK Try.prog 3 = true := by kernel_rfl
@[go_sem] theorem ex3 : (cfg.ext 3).isSome = false := rfl
def cd4 : Cd := .seq (R [cb 2 (.tk (.c (kb false)))] [0]) (.seq (R [cb 8 (.call none (.c (kf 13)) []), cb 3 (.tk (.s 8))] [0, 3]) (.seq (.seq (R [cb 9 (.mv (.s 3)), cb 10 (.un .not (.s 9))] [0, 3, 10]) (.ite (.s 10) (.seq (R [cb 2 (.tk (.c (kb false)))] [2]) (.ret)) (.skip))) (.seq (.seq (R [c0 11 (.mv (.s 0)), c0 12 (.len 1 (.s 11)), cb 13 (.bin .gtr .any (.s 12) (.c (ki .i64 300)))] [0, 3, 13]) (.ite (.s 13) (.seq (R [cb 14 (.tk (.s 3)), cb 2 (.tk (.s 14))] [2]) (.ret)) (.skip))) (.seq (R [c0 16 (.mv (.s 0)), c0 17 (.call none (.c (kf 29)) [(.s 16)]), c0 15 (.tk (.s 17)), c0 18 (.exh (.s 15)), c0 19 (.ext (.s 15) 1), c0 4 (.tk (.s 18)), c0 5 (.tk (.s 19))] [0, 3, 4, 5]) (.seq (R [c0 21 (.mv (.s 0)), c0 22 (.call none (.c (kf 30)) [(.s 21)]), c0 20 (.tk (.s 22)), c0 23 (.exh (.s 20)), c0 24 (.ext (.s 20) 1), c0 6 (.tk (.s 23)), c0 7 (.tk (.s 24))] [0, 3, 4, 5, 6, 7]) (.seq (R [cb 25 (.mv (.s 3)), cb 26 (.mv (.s 25)), cg 27 26 true (.mv (.s 4)), cg 28 26 true (.mv (.s 6)), ch 29 26 true (.bin .eql .any (.s 27) (.s 28)), cb 30 (.pick (.s 26) (.s 29) (.c (kb false))), cb 31 (.mv (.s 30)), cg 32 31 true (.mv (.s 5)), cg 33 31 true (.mv (.s 7)), ch 34 31 true (.bin .eql .any (.s 32) (.s 33)), cb 35 (.pick (.s 31) (.s 34) (.c (kb false))), cb 36 (.mv (.s 35)), cg 37 36 true (.mv (.s 5)), ch 38 36 true (.bin .neq .any (.s 37) (.c (ki .i64 0))), ch 39 36 true (.mv (.s 38)), cg 40 39 false (.mv (.s 4)), cg 41 39 false (.call none (.c (kf 17)) [(.s 40)]), cg 42 39 false (.mv (.s 0)), ch 43 39 false (.call none (.c (kf 16)) [(.s 41), (.s 42)]), ch 44 39 false (.mv (.s 43)), cg 45 44 true (.mv (.s 4)), ch 46 44 true (.call none (.c (kf 14)) [(.s 45)]), ch 47 39 false (.pick (.s 44) (.s 46) (.c (kb false))), ch 48 36 true (.pick (.s 39) (.c (kb true)) (.s 47)), cb 49 (.pick (.s 36) (.s 48) (.c (kb false))), cb 2 (.tk (.s 49))] [2]) (.ret)))))))
theorem fun4 : Fun Try.prog cfg 4 50 cd4 [.s 2] := ⟨rfl, Try.f4, _, Try.func4, rfl, rfl, by kernel_rfl, by kernel_rfl⟩
@[go_sem] theorem ok4 : calleeOK Try.prog 4 = true := by kernel_rfl
@[go_sem] theorem ex4 : (cfg.ext 4).isSome = false := rfl
@[go_sem] theorem ok13 : calleeOK Try.prog 13 = true := by kernel_rfl
@[go_sem] theorem ex13 : (cfg.ext 13).isSome = false := rfl
variable {h : DHeap}
theorem works_lim : lim Try.prog cfg 13 [] h = some (vb true, h) := lim_of (n := 60) (by kernel_rfl)
theorem texts_lim (o1 o2 : Bool) (l m : List Str) (hl : l.length ≤ 1099511627776) : lim Try.prog cfg 16 [vts o1 l, vts o2 m] h = some (vb (decide (l = m)), h) := by
  refine lim_funp fun16 rfl (by simp) (by simp [heapFree, free_ts]) rfl ?_
  delta cd16
  simp -implicitDefEqProofs -dsimp only [go_sem]
  refine ⟨fun h1 => ?_, fun h1 => ?_⟩
  · have hlen : l.length = m.length := by omega
    refine wp_for (σ := Nat) (fun k => [(0, vts false l), (1, vts false m), (5, vi (k : Nat))]) (fun _ => []) (fun k => l.length - k) (fun k => k ≤ l.length ∧ l.take k = m.take k) 0 (by simp) rfl rfl ?_
    rintro k ⟨hk, hj⟩ N hN
    simp -implicitDefEqProofs -dsimp only [go_sem]
    refine ⟨fun h2 => ⟨by omega, by omega, fun h3 => ?_, fun h3 => ?_⟩, fun h2 => ?_⟩
    · refine hN (k + 1) _ (by omega) ⟨by omega, ?_⟩ (by simp -implicitDefEqProofs -dsimp only [go_sem, wrap_succ (show k < 9223372036854775807 by omega)])
      rw [List.take_succ_eq_append_getElem (by omega), List.take_succ_eq_append_getElem (by omega), hj, h3]
    · have : l ≠ m := fun e => by subst e; exact h3 rfl
      simp [this]
    · have : k = l.length := by omega
      subst this
      rw [List.take_length, hlen, List.take_length] at hj
      simp [hj]
  · have : l ≠ m := fun e => by subst e; exact h1 rfl
    simp [this]

theorem pathsTells_lim (p q : Str) (hp : p.length ≤ 1048575) (hq : q.length ≤ 1048575) : lim Try.prog cfg 3 [vs p, vs q] h = some (vb true, h) := by
  refine lim_funp fun3 rfl (by simp) rfl rfl ?_
  delta cd3
  have w := works_lim (h := [])
  have a1 := valid_lim (h := []) p (by omega)
  have a2 := rvalid_lim (h := []) p hp
  have b1 := names_lim (h := []) p (by omega)
  have b2 := rnames_lim (h := []) p hp
  have b3 := texts_lim (h := []) false false (namesP p) (namesP p) (by have := names_le p; omega)
  have c1 := depth_lim (h := []) p (by omega)
  have c2 := rdepth_lim (h := []) p hp
  have d1 := parent_lim (h := []) p (by omega)
  have d2 := rparent_lim (h := []) p hp
  have e1 := last_lim (h := []) p (by omega)
  have e2 := rlast_lim (h := []) p hp
  have f1 := below_lim (h := []) p q (by omega) (by omega)
  have f2 := rbelow_lim (h := []) p q hp hq
  have g1 := less_lim (h := []) p q (by omega) (by omega)
  have g2 := rless_lim (h := []) p q hp hq
  generalize (parse p).isSome = x at a1 a2
  generalize belowP p q = y at f1 f2
  generalize lessP p q = z at g1 g2
  cases x <;> cases y <;> cases z <;> simp -implicitDefEqProofs -dsimp only [go_sem, w, a1, a2, b1, b2, b3, c1, c2, d1, d2, e1, e2, f1, f2, g1, g2, BEq.rfl]
theorem pathsOf_lim (own : Bool) (l : List Str) (hl : l.length ≤ 1048576) (hs : ∀ s ∈ l, s.length ≤ 1048576) : lim Try.prog cfg 4 [vts own l] h = some (vb true, h) := by
  refine lim_funp fun4 rfl (by simp) (by simp [heapFree, free_ts]) rfl ?_
  delta cd4
  have w := works_lim (h := [])
  have a1 := pof_lim (h := []) false l hl (fun s h => by have := hs s h; omega)
  have a2 := rof_lim (h := []) false l hl (fun s h => by have := hs s h; omega)
  by_cases hok : okL l = true
  · have hv : ofV l = .tup [vs (pathOf l), vi 0] := if_pos hok
    have hle := path_len hok
    have hn : namesP (pathOf l) = l := by simp [namesP, parse_pathOf hok]
    have hz : (parse (pathOf l)).isSome = true := by simp [parse_pathOf hok]
    have b1 := names_lim (h := []) (pathOf l) (by omega)
    have b2 := valid_lim (h := []) (pathOf l) (by omega)
    have b3 := texts_lim (h := []) false false l l (by omega)
    simp -implicitDefEqProofs -dsimp only [go_sem, w, a1, a2, hv, b1, b2, b3, hn, hz]
  · have hv : ofV l = .tup [vs [], vi 1] := if_neg hok
    simp -implicitDefEqProofs -dsimp only [go_sem, w, a1, a2, hv]
end Go.DS

/-
  Walks: PathsOrder, PathsJoin.
-/
namespace Go.DS
open Go Go.Proofs
set_option maxRecDepth 100000
set_option linter.unusedVariables false
set_option linter.unusedSimpArgs false
def cd6 : Cd := .seq (R [cb 6 (.tk (.c (kb false)))] [0, 1, 2]) (.seq (R [cb 10 (.call none (.c (kf 13)) []), cb 7 (.tk (.s 10))] [0, 1, 2, 7]) (.seq (.seq (R [cb 11 (.mv (.s 7)), cb 12 (.un .not (.s 11))] [0, 1, 2, 7, 12]) (.ite (.s 12) (.seq (R [cb 6 (.tk (.c (kb false)))] [6]) (.ret)) (.skip))) (.seq (.seq (R [c0 13 (.mv (.s 0)), c0 14 (.len 0 (.s 13)), cb 15 (.bin .gtr .any (.s 14) (.c (ki .i64 300))), cb 16 (.mv (.s 15)), cg 17 16 false (.mv (.s 1)), cg 18 16 false (.len 0 (.s 17)), ch 19 16 false (.bin .gtr .any (.s 18) (.c (ki .i64 300))), cb 20 (.pick (.s 16) (.c (kb true)) (.s 19)), cb 21 (.mv (.s 20)), cg 22 21 false (.mv (.s 2)), cg 23 21 false (.len 0 (.s 22)), ch 24 21 false (.bin .gtr .any (.s 23) (.c (ki .i64 300))), cb 25 (.pick (.s 21) (.c (kb true)) (.s 24)), cb 26 (.mv (.s 25)), cg 27 26 false (.mv (.s 0)), ch 28 26 false (.call none (.c (kf 14)) [(.s 27)]), ch 29 26 false (.un .not (.s 28)), cb 30 (.pick (.s 26) (.c (kb true)) (.s 29)), cb 31 (.mv (.s 30)), cg 32 31 false (.mv (.s 1)), ch 33 31 false (.call none (.c (kf 14)) [(.s 32)]), ch 34 31 false (.un .not (.s 33)), cb 35 (.pick (.s 31) (.c (kb true)) (.s 34)), cb 36 (.mv (.s 35)), cg 37 36 false (.mv (.s 2)), ch 38 36 false (.call none (.c (kf 14)) [(.s 37)]), ch 39 36 false (.un .not (.s 38)), cb 40 (.pick (.s 36) (.c (kb true)) (.s 39))] [0, 1, 2, 7, 40]) (.ite (.s 40) (.seq (R [cb 41 (.tk (.s 7)), cb 6 (.tk (.s 41))] [6]) (.ret)) (.skip))) (.seq (R [c0 42 (.mv (.s 0)), c0 43 (.mv (.s 1)), cb 44 (.call none (.c (kf 27)) [(.s 42), (.s 43)]), cb 8 (.tk (.s 44))] [0, 1, 2, 7, 8]) (.seq (R [c0 45 (.mv (.s 1)), c0 46 (.mv (.s 0)), cb 47 (.call none (.c (kf 27)) [(.s 45), (.s 46)]), cb 9 (.tk (.s 47))] [0, 1, 2, 7, 8, 9]) (.seq (R [cb 48 (.mv (.s 7)), cb 49 (.mv (.s 48)), ch 50 49 true (.mv (.s 8)), ch 51 49 true (.mv (.s 50)), ch 52 51 true (.mv (.s 9)), ch 53 49 true (.pick (.s 51) (.s 52) (.c (kb false))), ch 54 49 true (.un .not (.s 53)), cb 55 (.pick (.s 49) (.s 54) (.c (kb false))), cb 56 (.mv (.s 55)), ch 57 56 true (.mv (.s 8)), ch 58 56 true (.mv (.s 57)), ch 59 58 false (.mv (.s 9)), ch 60 56 true (.pick (.s 58) (.c (kb true)) (.s 59)), cg 61 56 true (.mv (.s 0)), cg 62 56 true (.mv (.s 1)), ch 63 56 true (.bin .neq .any (.s 61) (.s 62)), ch 64 56 true (.bin .eql .bool (.s 60) (.s 63)), cb 65 (.pick (.s 56) (.s 64) (.c (kb false))), cb 66 (.mv (.s 65)), ch 67 66 true (.mv (.s 8)), ch 68 66 true (.un .not (.s 67)), ch 69 66 true (.mv (.s 68)), cg 70 69 false (.mv (.s 1)), cg 71 69 false (.mv (.s 2)), ch 72 69 false (.call none (.c (kf 27)) [(.s 70), (.s 71)]), ch 73 69 false (.un .not (.s 72)), ch 74 66 true (.pick (.s 69) (.c (kb true)) (.s 73)), ch 75 66 true (.mv (.s 74)), cg 76 75 false (.mv (.s 0)), cg 77 75 false (.mv (.s 2)), ch 78 75 false (.call none (.c (kf 27)) [(.s 76), (.s 77)]), ch 79 66 true (.pick (.s 75) (.c (kb true)) (.s 78)), cb 80 (.pick (.s 66) (.s 79) (.c (kb false))), cb 81 (.mv (.s 80)), cg 82 81 true (.mv (.s 0)), cg 83 81 true (.mv (.s 1)), ch 84 81 true (.call none (.c (kf 25)) [(.s 82), (.s 83)]), ch 85 81 true (.un .not (.s 84)), ch 86 81 true (.mv (.s 85)), ch 87 86 false (.mv (.s 8)), ch 88 81 true (.pick (.s 86) (.c (kb true)) (.s 87)), cb 89 (.pick (.s 81) (.s 88) (.c (kb false))), cb 6 (.tk (.s 89))] [6]) (.ret)))))))
theorem fun6 : Fun Try.prog cfg 6 90 cd6 [.s 6] := ⟨rfl, Try.f6, _, Try.func6, rfl, rfl, by kernel_rfl, by kernel_rfl⟩
@[go_sem] theorem ok6 : calleeOK Try.prog 6 = true := by kernel_rfl
@[go_sem] theorem ex6 : (cfg.ext 6).isSome = false := rfl
def cd7 : Cd := .seq (R [cb 4 (.tk (.c (kb false)))] [0, 1]) (.seq (R [cb 9 (.call none (.c (kf 13)) []), cb 5 (.tk (.s 9))] [0, 1, 5]) (.seq (.seq (R [cb 10 (.mv (.s 5)), cb 11 (.un .not (.s 10))] [0, 1, 5, 11]) (.ite (.s 11) (.seq (R [cb 4 (.tk (.c (kb false)))] [4]) (.ret)) (.skip))) (.seq (.seq (R [c0 12 (.mv (.s 0)), c0 13 (.len 0 (.s 12)), cb 14 (.bin .gtr .any (.s 13) (.c (ki .i64 300))), cb 15 (.mv (.s 14)), cg 16 15 false (.mv (.s 1)), cg 17 15 false (.len 0 (.s 16)), ch 18 15 false (.bin .gtr .any (.s 17) (.c (ki .i64 300))), cb 19 (.pick (.s 15) (.c (kb true)) (.s 18)), cb 20 (.mv (.s 19)), cg 21 20 false (.mv (.s 0)), ch 22 20 false (.call none (.c (kf 14)) [(.s 21)]), ch 23 20 false (.un .not (.s 22)), cb 24 (.pick (.s 20) (.c (kb true)) (.s 23)), cb 25 (.mv (.s 24)), cg 26 25 false (.mv (.s 1)), ch 27 25 false (.call none (.c (kf 14)) [(.s 26)]), ch 28 25 false (.un .not (.s 27)), cb 29 (.pick (.s 25) (.c (kb true)) (.s 28))] [0, 1, 5, 29]) (.ite (.s 29) (.seq (R [cb 30 (.tk (.s 5)), cb 4 (.tk (.s 30))] [4]) (.ret)) (.skip))) (.seq (R [c0 6 (.tk (.c (kn 1)))] [0, 1, 5, 6]) (.seq (R [c0 31 (.tk (.s 6)), c0 32 (.mv (.s 0)), c0 33 (.call none (.c (kf 17)) [(.s 32)]), c0 34 (.app 1 18 true (.s 31) (.s 33)), c0 6 (.tk (.s 34))] [0, 1, 5, 6]) (.seq (R [c0 35 (.tk (.s 6)), c0 36 (.mv (.s 1)), c0 37 (.call none (.c (kf 17)) [(.s 36)]), c0 38 (.app 1 18 true (.s 35) (.s 37)), c0 6 (.tk (.s 38))] [0, 1, 5, 6]) (.seq (R [c0 40 (.mv (.s 6)), c0 41 (.call none (.c (kf 29)) [(.s 40)]), c0 39 (.tk (.s 41)), c0 42 (.exh (.s 39)), c0 43 (.ext (.s 39) 1), c0 7 (.tk (.s 42)), c0 8 (.tk (.s 43))] [0, 1, 5, 6, 7, 8]) (.seq (.seq (R [c0 44 (.mv (.s 6)), c0 45 (.len 1 (.s 44)), cb 46 (.bin .gtr .any (.s 45) (.c (ki .i64 8)))] [0, 1, 5, 7, 8, 46]) (.ite (.s 46) (.seq (R [cb 47 (.mv (.s 5)), cb 48 (.mv (.s 47)), cg 49 48 true (.mv (.s 8)), ch 50 48 true (.bin .eql .any (.s 49) (.c (ki .i64 1))), cb 51 (.pick (.s 48) (.s 50) (.c (kb false))), cb 52 (.mv (.s 51)), cg 53 52 true (.mv (.s 7)), ch 54 52 true (.bin .eql .any (.s 53) (.c (ks []))), cb 55 (.pick (.s 52) (.s 54) (.c (kb false))), cb 4 (.tk (.s 55))] [4]) (.ret)) (.skip))) (.seq (R [cb 56 (.mv (.s 5)), cb 57 (.mv (.s 56)), cg 58 57 true (.mv (.s 8)), ch 59 57 true (.bin .eql .any (.s 58) (.c (ki .i64 0))), cb 60 (.pick (.s 57) (.s 59) (.c (kb false))), cb 61 (.mv (.s 60)), cg 62 61 true (.mv (.s 7)), ch 63 61 true (.call none (.c (kf 14)) [(.s 62)]), cb 64 (.pick (.s 61) (.s 63) (.c (kb false))), cb 65 (.mv (.s 64)), cg 66 65 true (.mv (.s 7)), cg 67 65 true (.call none (.c (kf 19)) [(.s 66)]), cg 68 65 true (.mv (.s 0)), cg 69 65 true (.call none (.c (kf 19)) [(.s 68)]), cg 70 65 true (.mv (.s 1)), cg 71 65 true (.call none (.c (kf 19)) [(.s 70)]), cg 72 65 true (.bin .add .any (.s 69) (.s 71)), ch 73 65 true (.bin .eql .any (.s 67) (.s 72)), cb 74 (.pick (.s 65) (.s 73) (.c (kb false))), cb 75 (.mv (.s 74)), cg 76 75 true (.mv (.s 1)), ch 77 75 true (.bin .eql .any (.s 76) (.c (ks [47]))), ch 78 75 true (.mv (.s 77)), cg 79 78 true (.mv (.s 7)), cg 80 78 true (.mv (.s 0)), ch 81 78 true (.bin .eql .any (.s 79) (.s 80)), ch 82 75 true (.pick (.s 78) (.s 81) (.c (kb false))), ch 83 75 true (.mv (.s 82)), cg 84 83 false (.mv (.s 0)), cg 85 83 false (.mv (.s 7)), ch 86 83 false (.call none (.c (kf 25)) [(.s 84), (.s 85)]), ch 87 75 true (.pick (.s 83) (.c (kb true)) (.s 86)), cb 88 (.pick (.s 75) (.s 87) (.c (kb false))), cb 89 (.mv (.s 88)), cg 90 89 true (.mv (.s 1)), ch 91 89 true (.bin .eql .any (.s 90) (.c (ks [47]))), ch 92 89 true (.mv (.s 91)), cg 93 92 false (.mv (.s 7)), cg 94 92 false (.call none (.c (kf 23)) [(.s 93)]), cg 95 92 false (.mv (.s 1)), cg 96 92 false (.call none (.c (kf 23)) [(.s 95)]), ch 97 92 false (.bin .eql .any (.s 94) (.s 96)), ch 98 89 true (.pick (.s 92) (.c (kb true)) (.s 97)), cb 99 (.pick (.s 89) (.s 98) (.c (kb false))), cb 4 (.tk (.s 99))] [4]) (.ret))))))))))
theorem fun7 : Fun Try.prog cfg 7 100 cd7 [.s 4] := ⟨rfl, Try.f7, _, Try.func7, rfl, rfl, by kernel_rfl, by kernel_rfl⟩
@[go_sem] theorem ok7 : calleeOK Try.prog 7 = true := by kernel_rfl
@[go_sem] theorem ex7 : (cfg.ext 7).isSome = false := rfl
variable {h : DHeap}
theorem pathsOrder_lim (p q r : Str) (hp : p.length ≤ 1048575) (hq : q.length ≤ 1048575) (hr : r.length ≤ 1048575) : lim Try.prog cfg 6 [vs p, vs q, vs r] h = some (vb true, h) := by
  refine lim_funp fun6 rfl (by simp) rfl rfl ?_
  delta cd6
  have w := works_lim (h := [])
  have a1 := valid_lim (h := []) p (by omega)
  have a2 := valid_lim (h := []) q (by omega)
  have a3 := valid_lim (h := []) r (by omega)
  have b1 := less_lim (h := []) p q (by omega) (by omega)
  have b2 := less_lim (h := []) q p (by omega) (by omega)
  have b3 := less_lim (h := []) q r (by omega) (by omega)
  have b4 := less_lim (h := []) p r (by omega) (by omega)
  have b5 := below_lim (h := []) p q (by omega) (by omega)
  cases h1 : parse p with
  | none =>
    rw [h1, Option.isSome_none] at a1
    simp -implicitDefEqProofs -dsimp only [go_sem, w, a1]
  | some a =>
    rw [h1, Option.isSome_some] at a1
    cases h2 : parse q with
    | none =>
      rw [h2, Option.isSome_none] at a2
      simp -implicitDefEqProofs -dsimp only [go_sem, w, a1, a2]
    | some b =>
      rw [h2, Option.isSome_some] at a2
      cases h3 : parse r with
      | none =>
        rw [h3, Option.isSome_none] at a3
        simp -implicitDefEqProofs -dsimp only [go_sem, w, a1, a2, a3]
      | some c =>
        rw [h3, Option.isSome_some] at a3
        have f1 : lessP p q = true → lessP q p = false := by
          rw [less_eq h1 h2, less_eq h2 h1]
          have := good_N.anti a b
          simp only [decide_eq_true_eq, decide_eq_false_iff_not]; omega
        have f2 : p = q → lessP p q = false := fun e => by
          subst e
          rw [h1] at h2; cases h2
          rw [less_eq h1 h1, (good_N.eq a a).2 rfl]; rfl
        have f2' : p = q → lessP q p = false := fun e => by
          subst e
          rw [h1] at h2; cases h2
          rw [less_eq h1 h1, (good_N.eq a a).2 rfl]; rfl
        have f3 : ¬ p = q → lessP p q = false → lessP q p = true := fun hne => by
          rw [less_eq h1 h2, less_eq h2 h1]
          have e1 := good_N.anti b a
          have e2 : cmpN a b ≠ 0 := fun e => hne (by have := (good_N.eq a b).1 e; subst this; exact path_inj h1 h2)
          simp only [decide_eq_true_eq, decide_eq_false_iff_not]; omega
        have f4 : lessP p q = true → lessP q r = true → lessP p r = true := by
          rw [less_eq h1 h2, less_eq h2 h3, less_eq h1 h3]
          simpa only [decide_eq_true_eq] using good_N.trans a b c
        have f5 : belowP p q = true → lessP p q = true := fun e => by
          obtain ⟨d, hd, rfl⟩ := (below_iff h1 h2).1 e
          rw [less_eq h1 h2, decide_eq_true_eq]
          exact cmpN_pre a d hd
        simp -implicitDefEqProofs -dsimp only [go_sem, w, a1, a2, a3, b1, b2, b3, b4, b5]
        generalize lessP p q = x1 at *
        generalize lessP q p = x2 at *
        generalize lessP q r = x3 at *
        generalize lessP p r = x4 at *
        generalize belowP p q = x5 at *
        clear w a1 a2 a3 b1 b2 b3 b4 b5
        grind

theorem pathsJoin_lim (p q : Str) (hp : p.length ≤ 1048575) (hq : q.length ≤ 1048575) : lim Try.prog cfg 7 [vs p, vs q] h = some (vb true, h) := by
  refine lim_funp fun7 rfl (by simp) rfl rfl ?_
  delta cd7
  have w := works_lim (h := [])
  have a1 := valid_lim (h := []) p (by omega)
  have a2 := valid_lim (h := []) q (by omega)
  have n1 := names_lim (h := []) p (by omega)
  have n2 := names_lim (h := []) q (by omega)
  have d1 := depth_lim (h := []) p (by omega)
  have d2 := depth_lim (h := []) q (by omega)
  have e2 := last_lim (h := []) q (by omega)
  cases h1 : parse p with
  | none =>
    rw [h1, Option.isSome_none] at a1
    simp -implicitDefEqProofs -dsimp only [go_sem, w, a1]
  | some a =>
    rw [h1, Option.isSome_some] at a1
    cases h2 : parse q with
    | none =>
      rw [h2, Option.isSome_none] at a2
      simp -implicitDefEqProofs -dsimp only [go_sem, w, a1, a2]
    | some b =>
      rw [h2, Option.isSome_some] at a2
      have na : namesP p = a := by simp [namesP, h1]
      have nb : namesP q = b := by simp [namesP, h2]
      have da : depthP p = a.length := by simp [depthP, h1]
      have db : depthP q = b.length := by simp [depthP, h2]
      rw [na] at n1
      rw [nb] at n2
      rw [da] at d1
      rw [db] at d2
      have oa := okL_names (parse_some h1).1
      have ob := okL_names (parse_some h2).1
      have o1 := pof_lim (h := []) false (a ++ b) (by simp; omega) (fun s hs => by
        rcases List.mem_append.1 hs with hs | hs
        · have := nameOK_le (oa.2 s hs); omega
        · have := nameOK_le (ob.2 s hs); omega)
      by_cases h8 : (a ++ b).length ≤ 8
      · have hok : okL (a ++ b) = true := by
          simp only [okL, Bool.and_eq_true, decide_eq_true_eq, List.all_eq_true]
          refine ⟨h8, fun s hs => ?_⟩
          rcases List.mem_append.1 hs with hs | hs
          · exact oa.2 s hs
          · exact ob.2 s hs
        have hv : ofV (a ++ b) = .tup [vs (pathOf (a ++ b)), vi 0] := if_pos hok
        have hpo := parse_pathOf hok
        have hle := path_len hok
        have v1 := valid_lim (h := []) (pathOf (a ++ b)) (by omega)
        have v2 := depth_lim (h := []) (pathOf (a ++ b)) (by omega)
        have v3 := below_lim (h := []) p (pathOf (a ++ b)) (by omega) (by omega)
        have v4 := last_lim (h := []) (pathOf (a ++ b)) (by omega)
        rw [hpo, Option.isSome_some] at v1
        have dc : depthP (pathOf (a ++ b)) = ((a ++ b).length : Nat) := by simp [depthP, hpo]
        rw [dc] at v2
        have hw : IntKind.wrap .i64 ((a.length : Int) + (b.length : Int)) = ((a ++ b).length : Nat) := by
          rw [wrap64 (by omega) (by omega)]; simp
        have hq0 : q = [47] ↔ b = [] := by
          constructor
          · rintro rfl; rw [parse_root] at h2; cases h2; rfl
          · rintro rfl; exact path_inj h2 parse_root
        by_cases hb : b = []
        · have hq1 := hq0.2 hb
          subst hq1
          subst hb
          have hpp : pathOf a = p := (parse_some h1).2.symm
          simp only [List.append_nil, hpp, List.length_nil] at o1 hv v1 v2 v3 v4 hw d2 n2
          simp -implicitDefEqProofs -dsimp only [go_sem, w, a1, a2, n1, n2, d1, d2, e2, o1, hv, hw]
          have hw2 : IntKind.wrap .i64 ((a.length : Int) + 0) = a.length := by rw [wrap64 (by omega) (by omega)]; simp
          simp only [maxLenD, List.length_append] at *
          exact fun _ => ⟨by omega, by omega, fun h => by omega, fun h h' => absurd hw2.symm h'⟩
        · have hq1 : ¬ q = [47] := fun e => hb (hq0.1 e)
          have hbel : belowP p (pathOf (a ++ b)) = true := (below_iff h1 hpo).2 ⟨b, hb, rfl⟩
          rw [hbel] at v3
          have hla : lastP (pathOf (a ++ b)) = lastP q := by
            simp only [lastP, namesP, hpo, h2, Option.getD_some]
            rw [List.getLast?_append]
            cases hg : b.getLast? with
            | none => exact absurd (List.getLast?_eq_none_iff.1 hg) hb
            | some x => rfl
          rw [hla] at v4
          simp -implicitDefEqProofs -dsimp only [go_sem, w, a1, a2, n1, n2, d1, d2, e2, o1, hv, v1, v2, v3, v4, hw, hq1]
          simp only [List.length_append, maxLenD] at *
          exact fun _ _ => ⟨by omega, by omega, fun h => by omega⟩
      · have hok : ¬ okL (a ++ b) = true := by
          simp only [okL, Bool.and_eq_true, decide_eq_true_eq]
          exact fun e => h8 e.1
        have hv : ofV (a ++ b) = .tup [vs [], vi 1] := if_neg hok
        simp -implicitDefEqProofs -dsimp only [go_sem, w, a1, a2, n1, n2, o1, hv]
        simp only [List.length_append, maxLenD] at *
        exact fun _ _ => ⟨by omega, by omega, fun h => by omega⟩
end Go.DS

/-
  Walks: PathsUp.
-/
namespace Go.DS
open Go Go.Proofs
set_option maxRecDepth 100000
set_option linter.unusedVariables false
set_option linter.unusedSimpArgs false
def cd5 : Cd := .seq (R [cb 6 (.tk (.c (kb false)))] [0, 1, 2]) (.seq (R [cb 12 (.call none (.c (kf 13)) []), cb 7 (.tk (.s 12))] [0, 1, 2, 7]) (.seq (.seq (R [cb 13 (.mv (.s 7)), cb 14 (.un .not (.s 13))] [0, 1, 2, 7, 14]) (.ite (.s 14) (.seq (R [cb 6 (.tk (.c (kb false)))] [6]) (.ret)) (.skip))) (.seq (.seq (R [c0 15 (.mv (.s 0)), c0 16 (.len 0 (.s 15)), cb 17 (.bin .gtr .any (.s 16) (.c (ki .i64 300))), cb 18 (.mv (.s 17)), cg 19 18 false (.mv (.s 1)), cg 20 18 false (.len 0 (.s 19)), ch 21 18 false (.bin .gtr .any (.s 20) (.c (ki .i64 300))), cb 22 (.pick (.s 18) (.c (kb true)) (.s 21)), cb 23 (.mv (.s 22)), cg 24 23 false (.mv (.s 2)), cg 25 23 false (.len 0 (.s 24)), ch 26 23 false (.bin .gtr .any (.s 25) (.c (ki .i64 300))), cb 27 (.pick (.s 23) (.c (kb true)) (.s 26)), cb 28 (.mv (.s 27)), cg 29 28 false (.mv (.s 0)), ch 30 28 false (.call none (.c (kf 14)) [(.s 29)]), ch 31 28 false (.un .not (.s 30)), cb 32 (.pick (.s 28) (.c (kb true)) (.s 31)), cb 33 (.mv (.s 32)), cg 34 33 false (.mv (.s 1)), ch 35 33 false (.call none (.c (kf 14)) [(.s 34)]), ch 36 33 false (.un .not (.s 35)), cb 37 (.pick (.s 33) (.c (kb true)) (.s 36)), cb 38 (.mv (.s 37)), cg 39 38 false (.mv (.s 2)), ch 40 38 false (.call none (.c (kf 14)) [(.s 39)]), ch 41 38 false (.un .not (.s 40)), cb 42 (.pick (.s 38) (.c (kb true)) (.s 41))] [0, 1, 2, 7, 42]) (.ite (.s 42) (.seq (R [cb 43 (.tk (.s 7)), cb 6 (.tk (.s 43))] [6]) (.ret)) (.skip))) (.seq (.seq (R [c0 44 (.mv (.s 0)), cb 45 (.bin .neq .any (.s 44) (.c (ks [47])))] [0, 1, 2, 7, 45]) (.ite (.s 45) (.seq (R [c0 46 (.mv (.s 0)), c0 47 (.call none (.c (kf 21)) [(.s 46)]), c0 8 (.tk (.s 47))] [0, 1, 2, 7, 8]) (.seq (.seq (R [c0 48 (.mv (.s 8)), cb 49 (.call none (.c (kf 14)) [(.s 48)]), cb 50 (.un .not (.s 49)), cb 51 (.mv (.s 50)), cg 52 51 false (.mv (.s 8)), cg 53 51 false (.call none (.c (kf 19)) [(.s 52)]), cg 54 51 false (.mv (.s 0)), cg 55 51 false (.call none (.c (kf 19)) [(.s 54)]), cg 56 51 false (.bin .sub .any (.s 55) (.c (ki .i64 1))), ch 57 51 false (.bin .neq .any (.s 53) (.s 56)), cb 58 (.pick (.s 51) (.c (kb true)) (.s 57)), cb 59 (.mv (.s 58)), cg 60 59 false (.mv (.s 8)), cg 61 59 false (.mv (.s 0)), ch 62 59 false (.call none (.c (kf 25)) [(.s 60), (.s 61)]), ch 63 59 false (.un .not (.s 62)), cb 64 (.pick (.s 59) (.c (kb true)) (.s 63))] [0, 1, 2, 7, 8, 64]) (.ite (.s 64) (.seq (R [cb 6 (.tk (.c (kb false)))] [6]) (.ret)) (.skip))) (.seq (R [c0 65 (.mv (.s 8)), c0 66 (.call none (.c (kf 17)) [(.s 65)]), c0 67 (.mv (.s 0)), c0 68 (.call none (.c (kf 23)) [(.s 67)]), c0 69 (.bsl 1 [(.s 68)]), c0 70 (.app 1 18 true (.s 66) (.s 69)), c0 9 (.tk (.s 70))] [0, 1, 2, 7, 9]) (.seq (R [c0 72 (.mv (.s 9)), c0 73 (.call none (.c (kf 29)) [(.s 72)]), c0 71 (.tk (.s 73)), c0 74 (.exh (.s 71)), c0 75 (.ext (.s 71) 1), c0 10 (.tk (.s 74)), c0 11 (.tk (.s 75))] [0, 1, 2, 7, 10, 11]) (.seq (R [c0 76 (.mv (.s 10)), c0 77 (.mv (.s 0)), cb 78 (.bin .neq .any (.s 76) (.s 77)), cb 79 (.mv (.s 78)), cg 80 79 false (.mv (.s 11)), ch 81 79 false (.bin .neq .any (.s 80) (.c (ki .i64 0))), cb 82 (.pick (.s 79) (.c (kb true)) (.s 81))] [0, 1, 2, 7, 82]) (.ite (.s 82) (.seq (R [cb 6 (.tk (.c (kb false)))] [6]) (.ret)) (.skip))))))) (.skip))) (.seq (.seq (R [c0 83 (.mv (.s 0)), c0 84 (.mv (.s 0)), cb 85 (.call none (.c (kf 25)) [(.s 83), (.s 84)]), cb 86 (.mv (.s 85)), cg 87 86 false (.mv (.s 0)), cg 88 86 false (.mv (.s 1)), ch 89 86 false (.call none (.c (kf 25)) [(.s 87), (.s 88)]), ch 90 86 false (.mv (.s 89)), cg 91 90 true (.mv (.s 1)), cg 92 90 true (.mv (.s 0)), ch 93 90 true (.call none (.c (kf 25)) [(.s 91), (.s 92)]), ch 94 86 false (.pick (.s 90) (.s 93) (.c (kb false))), cb 95 (.pick (.s 86) (.c (kb true)) (.s 94)), cb 96 (.mv (.s 95)), cg 97 96 false (.mv (.s 0)), cg 98 96 false (.mv (.s 1)), ch 99 96 false (.call none (.c (kf 25)) [(.s 97), (.s 98)]), ch 100 96 false (.mv (.s 99)), cg 101 100 true (.mv (.s 1)), cg 102 100 true (.mv (.s 2)), ch 103 100 true (.call none (.c (kf 25)) [(.s 101), (.s 102)]), ch 104 96 false (.pick (.s 100) (.s 103) (.c (kb false))), ch 105 96 false (.mv (.s 104)), cg 106 105 true (.mv (.s 0)), cg 107 105 true (.mv (.s 2)), ch 108 105 true (.call none (.c (kf 25)) [(.s 106), (.s 107)]), ch 109 105 true (.un .not (.s 108)), ch 110 96 false (.pick (.s 105) (.s 109) (.c (kb false))), cb 111 (.pick (.s 96) (.c (kb true)) (.s 110))] [0, 1, 7, 111]) (.ite (.s 111) (.seq (R [cb 6 (.tk (.c (kb false)))] [6]) (.ret)) (.skip))) (.seq (R [cb 112 (.mv (.s 7)), cb 113 (.mv (.s 112)), cg 114 113 true (.mv (.s 0)), cg 115 113 true (.mv (.s 1)), ch 116 113 true (.call none (.c (kf 25)) [(.s 114), (.s 115)]), cg 117 113 true (.mv (.s 1)), ch 118 113 true (.bin .neq .any (.s 117) (.c (ks [47]))), ch 119 113 true (.mv (.s 118)), cg 120 119 true (.mv (.s 1)), cg 121 119 true (.call none (.c (kf 21)) [(.s 120)]), cg 122 119 true (.mv (.s 0)), ch 123 119 true (.bin .eql .any (.s 121) (.s 122)), ch 124 119 true (.mv (.s 123)), cg 125 124 false (.mv (.s 0)), cg 126 124 false (.mv (.s 1)), cg 127 124 false (.call none (.c (kf 21)) [(.s 126)]), ch 128 124 false (.call none (.c (kf 25)) [(.s 125), (.s 127)]), ch 129 119 true (.pick (.s 124) (.c (kb true)) (.s 128)), ch 130 113 true (.pick (.s 119) (.s 129) (.c (kb false))), ch 131 113 true (.bin .eql .bool (.s 116) (.s 130)), cb 132 (.pick (.s 113) (.s 131) (.c (kb false))), cb 6 (.tk (.s 132))] [6]) (.ret)))))))
theorem fun5 : Fun Try.prog cfg 5 133 cd5 [.s 6] := ⟨rfl, Try.f5, _, Try.func5, rfl, rfl, by kernel_rfl, by kernel_rfl⟩
@[go_sem] theorem ok5 : calleeOK Try.prog 5 = true := by kernel_rfl
@[go_sem] theorem ex5 : (cfg.ext 5).isSome = false := rfl
variable {h : DHeap}
theorem okL_drop {l : List Str} (h : okL l = true) : okL l.dropLast = true := by
  have h1 := okL_names h
  simp only [okL, Bool.and_eq_true, decide_eq_true_eq, List.all_eq_true]
  exact ⟨by simp; omega, fun s hs => h1.2 s (List.dropLast_subset _ hs)⟩
theorem parent_path {q : Str} {b : List Str} (h2 : parse q = some b) (hb : b ≠ []) : parentP q = pathOf b.dropLast := by
  have : namesP q = b := by simp [namesP, h2]
  simp only [parentP, this, hb, if_false]
theorem up_law {p q : Str} {a b : List Str} (h1 : parse p = some a) (h2 : parse q = some b) (hb : b ≠ []) : belowP p q = (decide (parentP q = p) || belowP p (parentP q)) := by
  have hpar := parse_pathOf (okL_drop (parse_some h2).1)
  rw [parent_path h2 hb, Bool.eq_iff_iff]
  simp only [Bool.or_eq_true, decide_eq_true_eq]
  rw [below_iff h1 h2, below_iff h1 hpar]
  constructor
  · rintro ⟨c, hc, rfl⟩
    rw [List.dropLast_append_of_ne_nil hc]
    by_cases h0 : c.dropLast = []
    · left; rw [h0, List.append_nil]; exact (parse_some h1).2.symm
    · right; exact ⟨_, h0, rfl⟩
  · rintro (e | ⟨c, hc, e⟩)
    · rw [e, h1] at hpar
      cases hpar
      exact ⟨[b.getLast hb], by simp, (List.dropLast_concat_getLast hb).symm⟩
    · refine ⟨c ++ [b.getLast hb], by simp, ?_⟩
      rw [← List.append_assoc, ← e]
      exact (List.dropLast_concat_getLast hb).symm
theorem parentP_len (q : Str) : (parentP q).length ≤ 1048575 := by
  cases h2 : parse q with
  | none => simp [parentP, namesP, h2]
  | some b =>
    by_cases hb : b = []
    · simp [parentP, namesP, h2, hb]
    · rw [parent_path h2 hb]
      have := path_len (okL_drop (parse_some h2).1)
      omega
theorem root_iff {p : Str} {a : List Str} (h1 : parse p = some a) : p = [47] ↔ a = [] := by
  constructor
  · rintro rfl; rw [parse_root] at h1; cases h1; rfl
  · rintro rfl; exact path_inj h1 parse_root
theorem pathsUp_lim (p q r : Str) (hp : p.length ≤ 1048575) (hq : q.length ≤ 1048575) (hr : r.length ≤ 1048575) : lim Try.prog cfg 5 [vs p, vs q, vs r] h = some (vb true, h) := by
  refine lim_funp fun5 rfl (by simp) rfl rfl ?_
  delta cd5
  have w := works_lim (h := [])
  have a1 := valid_lim (h := []) p (by omega)
  have a2 := valid_lim (h := []) q (by omega)
  have a3 := valid_lim (h := []) r (by omega)
  have b1 := below_lim (h := []) p p (by omega) (by omega)
  have b2 := below_lim (h := []) p q (by omega) (by omega)
  have b3 := below_lim (h := []) q p (by omega) (by omega)
  have b4 := below_lim (h := []) q r (by omega) (by omega)
  have b5 := below_lim (h := []) p r (by omega) (by omega)
  have u1 := parent_lim (h := []) p (by omega)
  have u2 := parent_lim (h := []) q (by omega)
  have d1 := depth_lim (h := []) p (by omega)
  have e1 := last_lim (h := []) p (by omega)
  cases h1 : parse p with
  | none =>
    rw [h1, Option.isSome_none] at a1
    simp -implicitDefEqProofs -dsimp only [go_sem, w, a1]
  | some a =>
    rw [h1, Option.isSome_some] at a1
    cases h2 : parse q with
    | none =>
      rw [h2, Option.isSome_none] at a2
      simp -implicitDefEqProofs -dsimp only [go_sem, w, a1, a2]
    | some b =>
      rw [h2, Option.isSome_some] at a2
      cases h3 : parse r with
      | none =>
        rw [h3, Option.isSome_none] at a3
        simp -implicitDefEqProofs -dsimp only [go_sem, w, a1, a2, a3]
      | some c =>
        rw [h3, Option.isSome_some] at a3
        have lu := parentP_len q
        have b6 := below_lim (h := []) p (parentP q) (by omega) (by omega)
        have f1 : belowP p p = false := by
          cases hb : belowP p p with
          | false => rfl
          | true =>
            obtain ⟨d, hd, e⟩ := (below_iff h1 h1).1 hb
            exact absurd (by simpa using e) hd
        have f2 : belowP p q = true → belowP q p = false := fun e => by
          obtain ⟨d, hd, rfl⟩ := (below_iff h1 h2).1 e
          cases hb : belowP q p with
          | false => rfl
          | true =>
            obtain ⟨d2, hd2, e2⟩ := (below_iff h2 h1).1 hb
            have h5 := congrArg List.length e2
            have h6 := List.length_pos_iff.2 hd
            simp only [List.length_append] at h5
            omega
        have f3 : belowP p q = true → belowP q r = true → belowP p r = true := fun e e' => by
          obtain ⟨d, hd, rfl⟩ := (below_iff h1 h2).1 e
          obtain ⟨d2, hd2, rfl⟩ := (below_iff h2 h3).1 e'
          exact (below_iff h1 h3).2 ⟨d ++ d2, by simp [hd], by simp⟩
        have f4 : q = [47] → belowP p q = false := fun e => by
          have hb := (root_iff h2).1 e
          subst hb
          cases hb : belowP p q with
          | false => rfl
          | true =>
            obtain ⟨d, hd, e2⟩ := (below_iff h1 h2).1 hb
            simp at e2
            exact absurd e2.2 hd
        have f5 : q ≠ [47] → belowP p q = (decide (parentP q = p) || belowP p (parentP q)) := fun e => up_law h1 h2 fun hb => e ((root_iff h2).2 hb)
        rw [f1] at b1
        have f6 : (belowP p q = false ∧ (q = [47] ∨ (¬ q = [47] ∧ ¬ parentP q = p ∧ belowP p (parentP q) = false))) ∨
            (belowP p q = true ∧ belowP q p = false ∧ ¬ q = [47] ∧ (belowP q r = false ∨ (belowP q r = true ∧ belowP p r = true)) ∧ (parentP q = p ∨ (¬ parentP q = p ∧ belowP p (parentP q) = true))) := by
          cases hx : belowP p q with
          | false =>
            refine .inl ⟨rfl, ?_⟩
            by_cases hq1 : q = [47]
            · exact .inl hq1
            · have := f5 hq1
              rw [hx] at this
              have h7 := Bool.or_eq_false_iff.1 this.symm
              exact .inr ⟨hq1, by simpa using h7.1, h7.2⟩
          | true =>
            have hq1 : ¬ q = [47] := fun e => by rw [f4 e] at hx; cases hx
            refine .inr ⟨rfl, f2 hx, hq1, ?_, ?_⟩
            · cases hy : belowP q r with
              | false => exact .inl rfl
              | true => exact .inr ⟨rfl, f3 hx hy⟩
            · have := f5 hq1
              rw [hx] at this
              by_cases hpp : parentP q = p
              · exact .inl hpp
              · refine .inr ⟨hpp, ?_⟩
                simpa [hpp] using this.symm
        clear f2 f3 f4 f5
        by_cases hp1 : p = [47]
        · subst hp1
          rcases f6 with ⟨c1, c2 | ⟨c2, c3, c4⟩⟩ | ⟨c1, c2, c3, c4 | ⟨c4, c5⟩, c6 | ⟨c6, c7⟩⟩
          all_goals rw [c1] at b2
          · subst c2
            simp -implicitDefEqProofs -dsimp only [go_sem, w, a1, a2, a3, b1, b2]
          · rw [c4] at b6
            simp -implicitDefEqProofs -dsimp only [go_sem, w, a1, a2, a3, b1, b2, c2, u2, c3, b6]
          · rw [c2] at b3; rw [c4] at b4
            simp -implicitDefEqProofs -dsimp only [go_sem, w, a1, a2, a3, b1, b2, b3, b4, c3, u2, c6]
          · rw [c2] at b3; rw [c4] at b4; rw [c7] at b6
            simp -implicitDefEqProofs -dsimp only [go_sem, w, a1, a2, a3, b1, b2, b3, b4, c3, u2, c6, b6]
          · rw [c2] at b3; rw [c4] at b4; rw [c5] at b5
            simp -implicitDefEqProofs -dsimp only [go_sem, w, a1, a2, a3, b1, b2, b3, b4, b5, c3, u2, c6]
          · rw [c2] at b3; rw [c4] at b4; rw [c5] at b5; rw [c7] at b6
            simp -implicitDefEqProofs -dsimp only [go_sem, w, a1, a2, a3, b1, b2, b3, b4, b5, c3, u2, c6, b6]
        · have ha : a ≠ [] := fun e => hp1 ((root_iff h1).2 e)
          have hup := parent_path h1 ha
          have hok := okL_drop (parse_some h1).1
          have hpar := parse_pathOf hok
          have hle := path_len hok
          rw [hup] at u1
          have v1 := valid_lim (h := []) (pathOf a.dropLast) (by omega)
          have v2 := depth_lim (h := []) (pathOf a.dropLast) (by omega)
          have v3 := below_lim (h := []) (pathOf a.dropLast) p (by omega) (by omega)
          have v4 := names_lim (h := []) (pathOf a.dropLast) (by omega)
          rw [hpar, Option.isSome_some] at v1
          have hd1 : depthP (pathOf a.dropLast) = (a.length : Int) - 1 := by simp [depthP, hpar]; have := List.length_pos_iff.2 ha; omega
          have hd2 : depthP p = (a.length : Int) := by simp [depthP, h1]
          have hb1 : belowP (pathOf a.dropLast) p = true := (below_iff hpar h1).2 ⟨[a.getLast ha], by simp, (List.dropLast_concat_getLast ha).symm⟩
          have hn1 : namesP (pathOf a.dropLast) = a.dropLast := by simp [namesP, hpar]
          have hl1 : lastP p = a.getLast ha := by simp [lastP, namesP, h1, List.getLast?_eq_some_getLast ha]
          rw [hd1] at v2
          rw [hd2] at d1
          rw [hb1] at v3
          rw [hn1] at v4
          rw [hl1] at e1
          have oa := okL_names (parse_some h1).1
          have hw : IntKind.wrap .i64 ((a.length : Int) - 1) = (a.length : Int) - 1 := wrap64 (by omega) (by omega)
          have o1 := pof_lim (h := []) false a (by omega) (fun s hs => by have := nameOK_le (oa.2 s hs); omega)
          have hv : ofV a = .tup [vs p, vi 0] := by rw [ofV, if_pos (parse_some h1).1, ← (parse_some h1).2]
          have happ : a.dropLast ++ [a.getLast ha] = a := List.dropLast_concat_getLast ha
          have hmx : (a.dropLast.length + 1) * 18 ≤ maxLenD := by simp only [List.length_dropLast, maxLenD]; omega
          rw [hv] at o1
          rcases f6 with ⟨c1, c2 | ⟨c2, c3, c4⟩⟩ | ⟨c1, c2, c3, c4 | ⟨c4, c5⟩, c6 | ⟨c6, c7⟩⟩
          all_goals rw [c1] at b2
          · subst c2
            simp -implicitDefEqProofs -dsimp only [go_sem, w, a1, a2, a3, b1, b2, u1, d1, e1, v1, v2, v3, v4, hw, happ, o1, hmx, hp1]
          · rw [c4] at b6
            simp -implicitDefEqProofs -dsimp only [go_sem, w, a1, a2, a3, b1, b2, u1, d1, e1, v1, v2, v3, v4, hw, happ, o1, hmx, hp1, c2, u2, c3, b6]
          · rw [c2] at b3; rw [c4] at b4
            simp -implicitDefEqProofs -dsimp only [go_sem, w, a1, a2, a3, b1, b2, u1, d1, e1, v1, v2, v3, v4, hw, happ, o1, hmx, hp1, b3, b4, c3, u2, c6]
          · rw [c2] at b3; rw [c4] at b4; rw [c7] at b6
            simp -implicitDefEqProofs -dsimp only [go_sem, w, a1, a2, a3, b1, b2, u1, d1, e1, v1, v2, v3, v4, hw, happ, o1, hmx, hp1, b3, b4, c3, u2, c6, b6]
          · rw [c2] at b3; rw [c4] at b4; rw [c5] at b5
            simp -implicitDefEqProofs -dsimp only [go_sem, w, a1, a2, a3, b1, b2, u1, d1, e1, v1, v2, v3, v4, hw, happ, o1, hmx, hp1, b3, b4, b5, c3, u2, c6]
          · rw [c2] at b3; rw [c4] at b4; rw [c5] at b5; rw [c7] at b6
            simp -implicitDefEqProofs -dsimp only [go_sem, w, a1, a2, a3, b1, b2, u1, d1, e1, v1, v2, v3, v4, hw, happ, o1, hmx, hp1, b3, b4, b5, c3, u2, c6, b6]
end Go.DS

/-
  Arguments, opened: lists of texts.
-/
namespace Go.DS
open Go Go.Proofs Go.ChangeShapes Go.WideShapes Go.RowKit Go.Proofs.Ytejkkmiaffbjbaa Go.Deep
set_option linter.unusedVariables false
set_option linter.unusedSimpArgs false

theorem own' : ownKnob Try.prog.godebug = none := by kernel_rfl
theorem laidOut' : laidOutB Try.prog = true := by kernel_rfl
theorem bulk_get {H : Type} : ∀ {l : List (DataW H)} {d : DataW H}, d ∈ l → Rows.uptoBulk d ≤ Rows.uptoBulkAll l
  | x :: l, d, h => by
    simp only [Rows.uptoBulkAll]
    rcases List.mem_cons.1 h with rfl | h
    · omega
    · have := bulk_get h; omega
theorem bulk_pos {H : Type} (d : DataW H) : 1 ≤ Rows.uptoBulk d := by
  cases d <;> try (simp [Rows.uptoBulk]; done)
  rename_i l; cases l <;> simp [Rows.uptoBulk]
theorem bulk_len {H : Type} : ∀ (l : List (DataW H)), l.length ≤ Rows.uptoBulkAll l
  | [] => Nat.le_refl _
  | d :: l => by
    have := bulk_len l
    have := bulk_pos d
    simp only [Rows.uptoBulkAll, List.length_cons]; omega

theorem strs_rel {H : Type} {enc : TypeId × Value → H} {P : Program} {W : World} {held : Bool} {t e : TypeId} {a : Option Addr} {len cap : Nat} {d : DataW H} {ps : List MemPlace} (ht : P.underlying t = some (.slice e)) (he : P.underlying e = some .string) (hc : P.cellsOf e = 1)
    (h : DataW.Trod enc P W 0 (fun _ => true) held t (.slice a len cap) d ps) :
    ∃ l : List Str, RelV (gh0 W) (.list false 1 (ts l)) (.slice a len cap) ∧ l.length < Rows.uptoBulk d ∧ ∀ s ∈ l, s.length < Rows.uptoBulk d := by
  obtain ⟨fuel, hf⟩ := h
  rcases open_strs ht he hc hf with ⟨hcs, hx⟩ | ⟨ad, len', cap', m, Sx, hcs, _, hl, hm, hmm, hx, hcell⟩
  · simp [Value.cells] at hcs
    obtain ⟨rfl, rfl, rfl⟩ := hcs
    refine ⟨[], .empty, ?_, by simp⟩
    exact bulk_pos d
  · simp [Value.cells] at hcs
    obtain ⟨rfl, rfl, rfl⟩ := hcs
    have hlm : len ≤ m := by rw [hmm]; simp; exact hl
    have hd : d = .slice ((List.range len).map fun i => .lit (.string (Sx i).data.toList)) ((List.range (m - len)).map fun j => .lit (.string (Sx (len + j)).data.toList)) := by
      simpa using congrArg Prod.fst hx
    refine ⟨(List.range len).map fun i => bs (Sx i), ?_, ?_, ?_⟩
    · have hts : ts ((List.range len).map fun i => bs (Sx i)) = (List.range len).map fun i => [DV.sc (.string (Sx i))] := by
        simp only [ts, List.map_map]; rfl
      have hfl : ((List.range len).map fun i => [DV.sc (.string (Sx i))]).flatten = (List.range len).map fun i => DV.sc (.string (Sx i)) := by
        generalize List.range len = r
        induction r with
        | nil => rfl
        | cons x r ih => simp only [List.map_cons, List.flatten_cons, ih]; rfl
      have hlen : ((List.range len).map fun i => [DV.sc (.string (Sx i))]).length = len := by simp
      obtain ⟨b, off, g⟩ := ad
      show RelV (gh0 W) (.list false 1 (ts _)) _
      rw [hts]
      by_cases hz : len = 0
      · subst hz
        exact .empty
      · have hgn : g = none := by
          have := (hcell 0 (by omega)).1
          cases g with
          | none => rfl
          | some _ =>
            simp [World.cell?, Addr.add] at this
            split at this <;> simp at this
        subst hgn
        have hg : ∀ i, i < m → W.cell? ⟨b, off + i, none⟩ = some (.string (Sx i)) := fun i hi => by
          have := (hcell i hi).1
          by_cases hi0 : i = 0
          · subst hi0; simpa [Addr.add] using this
          · simpa [Addr.add, hi0] using this
        have := RelV.list (g := gh0 W) (own := false) (es := 1) (l := (List.range len).map fun i => [DV.sc (.string (Sx i))]) (cap := cap) (b := b) (off := off) (vs := (List.range len).map fun i => Value.string (Sx i)) (by simpa using hl) (by simp)
          (by rw [hfl]; simp) (by
            rw [hfl]
            intro k x v hx hv
            rw [List.getElem?_map] at hx hv
            cases hr : (List.range len)[k]? with
            | none => rw [hr] at hx; cases hx
            | some i => rw [hr] at hx hv; cases hx; cases hv; exact .sc _) (by
            intro k v hv
            rw [List.getElem?_map] at hv
            cases hr : (List.range len)[k]? with
            | none => rw [hr] at hv; cases hv
            | some i =>
              rw [hr] at hv; cases hv
              obtain ⟨hk, rfl⟩ := List.getElem?_eq_some_iff.1 hr
              simp only [List.getElem_range]
              simp only [List.length_range] at hk
              exact gh0_pc (hg k (by omega)) rfl)
        rwa [hlen] at this
    · rw [hd]
      have := bulk_len ((List.range len).map fun i => (DataW.lit (.string (Sx i).data.toList) : DataW H))
      simp only [Rows.uptoBulk, List.length_map, List.length_range] at this ⊢
      omega
    · intro s hs
      obtain ⟨i, hi, rfl⟩ := List.mem_map.1 hs
      have := bulk_get (H := H) (List.mem_map_of_mem (f := fun i => (DataW.lit (.string (Sx i).data.toList) : DataW H)) hi)
      rw [hd]
      simp only [Rows.uptoBulk] at this ⊢
      show (Sx i).data.toList.length < _
      omega
end Go.DS

/-
  The row PathsUp.
-/
namespace Go.Proofs.Ytejkkmiaffbjbaa.pathsUp
open Go.ChangeShapes Go.WideShapes Go.ChangeAt Go.RowKit
open Go.ChangeMaps (open_string shut_string)
open Go.DS
set_option linter.unusedVariables false
set_option linter.unusedSimpArgs false

theorem contract (H : Type) (enc : TypeId × Value → H) (W : World) (base : Nat) (args : Array Value) (ds gs : List (DataW H)) (before : List MemPlace)
    (hval0 : ∀ (j : Nat) t v, Try.f5.params[j]? = some t → args[j]? = some v → Value.okWide Try.prog W .any base t v)
    (hW : DataW.Whole enc Try.prog Try.f5.params.toList Rows.pathsUpSpec.vars false W args.toList ds gs before) (hk : Rows.uptoSmall H (ds ++ gs) = true) :
    Calls Try.prog 5 args W fun e W' => ∃ v, e = .returned v ∧ Rows.pathsUpSpec.post enc Try.prog Try.f5 false true false false W args v W' := by
  have hval : ∀ (j : Nat) t v, Try.f5.params[j]? = some t → args[j]? = some v → Value.okWide Try.prog W .any base t v := hval0
  have hW' := hW
  obtain ⟨p, q, hA0, hV, rfl, hfz, hnd⟩ := hW
  have hA : DataW.TrodAll enc Try.prog W 0 (fun _ => true) true Try.f5.params.toList args.toList ds p := hA0
  rw [Try.params5] at hA hval
  obtain ⟨v0, vs0, d0, ds0, p0, q0, hargs, rfl, rfl, h0, r0⟩ := trodAll_cons hA
  obtain ⟨v1, vs1, d1, ds1, p1, q1, rfl, rfl, rfl, h1, r1⟩ := trodAll_cons r0
  obtain ⟨v2, vs2, d2, ds2, p2, q2, rfl, rfl, rfl, h2, r2⟩ := trodAll_cons r1
  obtain ⟨rfl, rfl, rfl⟩ := trodAll_nil r2
  obtain rfl : args = #[v0, v1, v2] := by cases args; simp_all
  obtain ⟨rfl, rfl⟩ := trodVars_none hV
  have lt0 : ∀ x ∈ p0, x.block < W.heap.size := by obtain ⟨m, hm⟩ := h0; exact DataW.trod_lt m _ _ _ hm
  have k0 := h0
  obtain ⟨a0, rfl, rfl, rfl, y0⟩ := open_string Try.underlying9 (hval 0 9 v0 rfl rfl) h0
  have lt1 : ∀ x ∈ p1, x.block < W.heap.size := by obtain ⟨m, hm⟩ := h1; exact DataW.trod_lt m _ _ _ hm
  have k1 := h1
  obtain ⟨a1, rfl, rfl, rfl, y1⟩ := open_string Try.underlying9 (hval 1 9 v1 rfl rfl) h1
  have lt2 : ∀ x ∈ p2, x.block < W.heap.size := by obtain ⟨m, hm⟩ := h2; exact DataW.trod_lt m _ _ _ hm
  have k2 := h2
  obtain ⟨a2, rfl, rfl, rfl, y2⟩ := open_string Try.underlying9 (hval 2 9 v2 rfl rfl) h2
  clear hA0 hval0
  have hb := of_decide_eq_true hk
  simp only [Rows.uptoBulkAll, Rows.uptoBulk, List.append_nil] at hb
  have b0 : (bs a0).length ≤ 1048575 := by have : (bs a0).length = a0.data.toList.length := rfl; omega
  have b1 : (bs a1).length ≤ 1048575 := by have : (bs a1).length = a1.data.toList.length := rfl; omega
  have b2 : (bs a2).length ≤ 1048575 := by have : (bs a2).length = a2.data.toList.length := rfl; omega
  refine (Go.DS.start ext_ok (pathsUp_lim (bs a0) (bs a1) (bs a2) b0 b1 b2) W (vs := #[.string a0, .string a1, .string a2]) (.cons (.sc _) (.cons (.sc _) (.cons (.sc _) (.nil _))))).mono fun e W' ⟨he, bel⟩ => ?_
  subst he
  exact ⟨_, rfl, _, _, _, [], _, [], hW', trodAll_mk1 (shut_bool Try.underlying4 _), (trodAll_cons_mk (Below.trod laidOut' (by kernel_rfl) (of_decide_eq_true (by kernel_rfl)) k0 bel lt0) (trodAll_cons_mk (Below.trod laidOut' (by kernel_rfl) (of_decide_eq_true (by kernel_rfl)) k1 bel lt1) (trodAll_cons_mk (Below.trod laidOut' (by kernel_rfl) (of_decide_eq_true (by kernel_rfl)) k2 bel lt2) trodAll_mk0))), rfl, bel.frame _, fun h => by cases h⟩

set_option maxRecDepth 100000 in
theorem lifted (os : Os) (started : os.Started) (H : Type) (enc : TypeId × Value → H) (F : Stop.Interp) :
    ReturnsInHanded {} Try.checked os 5 .any ((Rows.OpenSpec.upto Rows.pathsUpSpec).pre6 enc Try.prog Try.f5 Rows.pathsUpUptoRow.domain false) (((Rows.OpenSpec.upto Rows.pathsUpSpec).at F).post enc Try.prog Try.f5 false true false false) := by
  refine returnsInHanded_of_cond (C := Try.checked) (s := Rows.OpenSpec.upto Rows.pathsUpSpec) (k := Rows.uptoSmall) rfl own' started (by kernel_rfl) Try.func5
    (OpenSpec.witness (enc := enc) (C := Try.checked) (s := Rows.OpenSpec.upto Rows.pathsUpSpec) (k := Rows.uptoSmall) rfl false ⟨#[], #[.string ByteArray.empty, .string ByteArray.empty, .string ByteArray.empty], []⟩ 8 (by kernel_rfl) (by kernel_rfl) (by kernel_rfl)
      (x := ([.lit (.string []), .lit (.string []), .lit (.string [])], [], [])) (by kernel_rfl) rfl (by kernel_rfl)) ?_
  intro W base args ds gs before hval hW _ hk _
  exact contract H enc W base args ds gs before hval hW hk

theorem over : Rows.pathsUpUptoRow.holds Try.pinned (Rows.OpenSpec.upto Rows.pathsUpSpec) :=
  OpenClaim.holds_of_cond 5 Try.f5 rfl rfl rfl rfl rfl rfl rfl ⟨rfl, rfl, rfl, rfl, rfl⟩ rfl rfl rfl rfl rfl (by kernel_rfl) Try.func5 (by kernel_rfl)
    (of_decide_eq_true (by kernel_rfl)) (by unfold Func.isWrapper; first | (rw [if_pos (by decide +kernel)]; kernel_rfl) | (rw [if_neg (by decide +kernel)]; exact ⟨rfl, rfl⟩))
    (fun os started H enc _ F => lifted os started H enc F)

theorem proved : Rows.PathsUpUptoSaid := over
#print axioms proved
end Go.Proofs.Ytejkkmiaffbjbaa.pathsUp
namespace Go.Proofs.Ytejkkmiaffbjbaa
theorem pathsUp_holds : Rows.PathsUpUptoSaid := pathsUp.proved
end Go.Proofs.Ytejkkmiaffbjbaa
