/-
  Walks: the reference's functions of paths.
-/
import Derived.Test.YtfmhhincdemhdaaGreatH9
import Derived.WalkKit
import Derived.ProofKit
import Derived.OpenShut
import Derived.ShutString
import Derived.ChangeOld
import Derived.Below
import Derived.JoinedCond
import Derived.Carry
set_option linter.unusedSimpArgs false
set_option linter.unusedVariables false
namespace Go.DS
open Go Go.Proofs
set_option maxRecDepth 100000
set_option linter.unusedVariables false
set_option linter.unusedSimpArgs false
def cd136 : Cd := .seq (R [cb 2 (.tk (.c (kb false)))] [0]) (.seq (.seq (R [c0 3 (.tk (.c (ki .i64 0)))] [0, 3]) (.block 0 (LP [0, 3] (.seq (.seq (R [c0 5 (.mv (.s 3)), c0 6 (.mv (.s 0)), c0 7 (.len 0 (.s 6)), cb 8 (.bin .lss .any (.s 5) (.s 7))] [0, 3, 8]) (.ite (.s 8) (.skip) (.exit 0))) (.seq (.block 1 (.seq (R [c0 11 (.mv (.s 0)), c0 12 (.mv (.s 3)), c0 13 (.ixs (.s 11) (.s 12)), c0 4 (.tk (.s 13))] [0, 3, 4]) (.seq (R (c0 14 (.mv (.s 4)) :: cb 15 (.bin .geq .any (.s 14) (.c (ki .u8 97))) :: cb 16 (.mv (.s 15)) :: cg 17 16 true (.mv (.s 4)) :: ch 18 16 true (.bin .leq .any (.s 17) (.c (ki .u8 122))) :: cb 19 (.pick (.s 16) (.s 18) (.c (kb false))) :: cb 20 (.mv (.s 19)) :: cg 21 20 false (.mv (.s 4)) :: ch 22 20 false (.bin .geq .any (.s 21) (.c (ki .u8 48))) :: ch 23 20 false (.mv (.s 22)) :: cg 24 23 true (.mv (.s 4)) :: ch 25 23 true (.bin .leq .any (.s 24) (.c (ki .u8 57))) :: ch 26 20 false (.pick (.s 23) (.s 25) (.c (kb false))) :: cb 27 (.pick (.s 20) (.c (kb true)) (.s 26)) :: cb 28 (.mv (.s 27)) :: cg 29 28 false (.mv (.s 4)) :: ch 30 28 false (.bin .eql .any (.s 29) (.c (ki .u8 45))) :: cb 31 (.pick (.s 28) (.c (kb true)) (.s 30)) :: cb 32 (.mv (.s 31)) :: cg 33 32 false (.mv (.s 4)) :: ch 34 32 false (.bin .eql .any (.s 33) (.c (ki .u8 95))) :: cb 35 (.pick (.s 32) (.c (kb true)) (.s 34)) :: cb 36 (.un .not (.s 35)) :: []) [0, 3, 36]) (.ite (.s 36) (.seq (R [cb 2 (.tk (.c (kb false)))] [2]) (.ret)) (.skip))))) (R [c0 9 (.mv (.s 3)), c0 10 (.bin .add .any (.s 9) (.c (ki .i64 1))), c0 3 (.tk (.s 10))] [0, 3])))))) (.seq (R [c0 37 (.mv (.s 0)), c0 38 (.len 0 (.s 37)), cb 39 (.bin .geq .any (.s 38) (.c (ki .i64 1))), cb 40 (.mv (.s 39)), cg 41 40 true (.mv (.s 0)), cg 42 40 true (.len 0 (.s 41)), ch 43 40 true (.bin .leq .any (.s 42) (.c (ki .i64 16))), cb 44 (.pick (.s 40) (.s 43) (.c (kb false))), cb 2 (.tk (.s 44))] [2]) (.ret)))
theorem fun136 : Fun Tryz.prog cfg 136 45 cd136 [.s 2] := ⟨rfl, Tryz.f136, _, Tryz.func136, rfl, rfl, by kernel_rfl, by kernel_rfl⟩
@[go_sem] theorem ok136 : calleeOK Tryz.prog 136 = true := by kernel_rfl
@[go_sem] theorem ex136 : (cfg.ext 136).isSome = false := rfl
def cd119 : Cd := .seq (R [c0 2 (.tk (.c (ks []))), c0 3 (.tk (.c (ki .i64 0)))] [0]) (.seq (.seq (R [c0 6 (.mv (.s 0)), c0 7 (.len 1 (.s 6)), cb 8 (.bin .gtr .any (.s 7) (.c (ki .i64 8)))] [0, 8]) (.ite (.s 8) (.seq (R [c0 2 (.tk (.c (ks []))), c0 3 (.tk (.c (ki .i64 1)))] [2, 3]) (.ret)) (.skip))) (.seq (R [c0 4 (.tk (.c (ks [])))] [0, 4]) (.seq (.seq (R [c0 5 (.tk (.c (ki .i64 0)))] [0, 4, 5]) (.block 0 (LP [0, 4, 5] (.seq (.seq (R [c0 9 (.mv (.s 5)), c0 10 (.mv (.s 0)), c0 11 (.len 1 (.s 10)), cb 12 (.bin .lss .any (.s 9) (.s 11))] [0, 4, 5, 12]) (.ite (.s 12) (.skip) (.exit 0))) (.seq (.block 1 (.seq (.seq (R [c0 15 (.mv (.s 0)), c0 16 (.mv (.s 5)), c0 17 (.ixp 1 (.s 15) (.s 16)), c0 18 (.ld false 1 (.s 17)), cb 19 (.call none (.c (kf 136)) [(.s 18)]), cb 20 (.un .not (.s 19))] [0, 4, 5, 20]) (.ite (.s 20) (.seq (R [c0 2 (.tk (.c (ks []))), c0 3 (.tk (.c (ki .i64 1)))] [2, 3]) (.ret)) (.skip))) (R [c0 21 (.mv (.s 4)), c0 22 (.bin .add .any (.s 21) (.c (ks [47]))), c0 23 (.mv (.s 0)), c0 24 (.mv (.s 5)), c0 25 (.ixp 1 (.s 23) (.s 24)), c0 26 (.ld false 1 (.s 25)), c0 27 (.bin .add .any (.s 22) (.s 26)), c0 4 (.tk (.s 27))] [0, 4, 5]))) (R [c0 13 (.mv (.s 5)), c0 14 (.bin .add .any (.s 13) (.c (ki .i64 1))), c0 5 (.tk (.s 14))] [0, 4, 5])))))) (.seq (.seq (R [c0 28 (.mv (.s 4)), cb 29 (.bin .eql .any (.s 28) (.c (ks [])))] [4, 29]) (.ite (.s 29) (R [c0 4 (.tk (.c (ks [47])))] [4]) (.skip))) (.seq (R [c0 30 (.mv (.s 4)), c0 2 (.tk (.s 30)), c0 3 (.tk (.c (ki .i64 0)))] [2, 3]) (.ret))))))
theorem fun119 : Fun Tryz.prog cfg 119 31 cd119 [.s 2, .s 3] := ⟨rfl, Tryz.f119, _, Tryz.func119, rfl, rfl, by kernel_rfl, by kernel_rfl⟩
@[go_sem] theorem ok119 : calleeOK Tryz.prog 119 = true := by kernel_rfl
@[go_sem] theorem ex119 : (cfg.ext 119).isSome = false := rfl
def cd120 : Cd := .seq (R [c0 2 (.tk (.c (kn 1)))] [0]) (.seq (R [c0 3 (.tk (.c (kn 1)))] [0, 3]) (.seq (R [c0 4 (.tk (.c (ks [])))] [0, 3, 4]) (.seq (.seq (R [c0 5 (.tk (.c (ki .i64 1)))] [0, 3, 4, 5]) (.block 0 (LP [0, 3, 4, 5] (.seq (.seq (R [c0 6 (.mv (.s 5)), c0 7 (.mv (.s 0)), c0 8 (.len 0 (.s 7)), cb 9 (.bin .lss .any (.s 6) (.s 8))] [0, 3, 4, 5, 9]) (.ite (.s 9) (.skip) (.exit 0))) (.seq (.block 1 (.seq (R [c0 12 (.mv (.s 0)), c0 13 (.mv (.s 5)), c0 14 (.ixs (.s 12) (.s 13)), cb 15 (.bin .eql .any (.s 14) (.c (ki .u8 47)))] [0, 3, 4, 5, 15]) (.ite (.s 15) (.seq (R [c0 16 (.tk (.s 3)), c0 17 (.mv (.s 4)), c0 18 (.bsl 1 [(.s 17)]), c0 19 (.app 1 18 true (.s 16) (.s 18)), c0 3 (.tk (.s 19))] [0, 3, 5]) (R [c0 4 (.tk (.c (ks [])))] [0, 3, 4, 5])) (R [c0 20 (.mv (.s 4)), c0 21 (.mv (.s 0)), c0 22 (.mv (.s 5)), c0 23 (.mv (.s 5)), c0 24 (.bin .add .any (.s 23) (.c (ki .i64 1))), c0 25 (.ss (.s 21) (some (.s 22)) (some (.s 24))), c0 26 (.bin .add .any (.s 20) (.s 25)), c0 4 (.tk (.s 26))] [0, 3, 4, 5])))) (R [c0 10 (.mv (.s 5)), c0 11 (.bin .add .any (.s 10) (.c (ki .i64 1))), c0 5 (.tk (.s 11))] [0, 3, 4, 5])))))) (.seq (.seq (R [c0 27 (.mv (.s 0)), cb 28 (.bin .neq .any (.s 27) (.c (ks [47])))] [3, 4, 28]) (.ite (.s 28) (R [c0 29 (.tk (.s 3)), c0 30 (.mv (.s 4)), c0 31 (.bsl 1 [(.s 30)]), c0 32 (.app 1 18 true (.s 29) (.s 31)), c0 3 (.tk (.s 32))] [3]) (.skip))) (.seq (R [c0 33 (.tk (.s 3)), c0 2 (.tk (.s 33))] [2]) (.ret))))))
theorem fun120 : Fun Tryz.prog cfg 120 34 cd120 [.s 2] := ⟨rfl, Tryz.f120, _, Tryz.func120, rfl, rfl, by kernel_rfl, by kernel_rfl⟩
@[go_sem] theorem ok120 : calleeOK Tryz.prog 120 = true := by kernel_rfl
@[go_sem] theorem ex120 : (cfg.ext 120).isSome = false := rfl
def cd109 : Cd := .seq (R [cb 2 (.tk (.c (kb false)))] [0]) (.seq (.seq (R [c0 5 (.mv (.s 0)), c0 6 (.len 0 (.s 5)), cb 7 (.bin .lss .any (.s 6) (.c (ki .i64 1))), cb 8 (.mv (.s 7)), cg 9 8 false (.mv (.s 0)), cg 10 8 false (.len 0 (.s 9)), ch 11 8 false (.bin .gtr .any (.s 10) (.c (ki .i64 200))), cb 12 (.pick (.s 8) (.c (kb true)) (.s 11))] [0, 12]) (.ite (.s 12) (.seq (R [cb 2 (.tk (.c (kb false)))] [2]) (.ret)) (.skip))) (.seq (R [c0 14 (.mv (.s 0)), c0 15 (.call none (.c (kf 120)) [(.s 14)]), c0 16 (.call none (.c (kf 119)) [(.s 15)]), c0 13 (.mv (.s 16)), c0 17 (.ext (.s 13) 0), c0 18 (.ext (.s 13) 1), c0 3 (.tk (.s 17)), c0 4 (.tk (.s 18))] [0, 3, 4]) (.seq (R [c0 19 (.mv (.s 4)), cb 20 (.bin .eql .any (.s 19) (.c (ki .i64 0))), cb 21 (.mv (.s 20)), cg 22 21 true (.mv (.s 3)), cg 23 21 true (.mv (.s 0)), ch 24 21 true (.bin .eql .any (.s 22) (.s 23)), cb 25 (.pick (.s 21) (.s 24) (.c (kb false))), cb 2 (.tk (.s 25))] [2]) (.ret))))
theorem fun109 : Fun Tryz.prog cfg 109 26 cd109 [.s 2] := ⟨rfl, Tryz.f109, _, Tryz.func109, rfl, rfl, by kernel_rfl, by kernel_rfl⟩
@[go_sem] theorem ok109 : calleeOK Tryz.prog 109 = true := by kernel_rfl
@[go_sem] theorem ex109 : (cfg.ext 109).isSome = false := rfl
def cd121 : Cd := .seq (R [c0 2 (.tk (.c (ki .i64 0)))] [0]) (.seq (.seq (R [c0 3 (.mv (.s 0)), cb 4 (.call none (.c (kf 109)) [(.s 3)]), cb 5 (.un .not (.s 4))] [0, 5]) (.ite (.s 5) (.seq (R [c0 2 (.tk (.c (ki .i64 (-1))))] [2]) (.ret)) (.skip))) (.seq (R [c0 6 (.mv (.s 0)), c0 7 (.call none (.c (kf 120)) [(.s 6)]), c0 8 (.len 1 (.s 7)), c0 2 (.tk (.s 8))] [2]) (.ret)))
theorem fun121 : Fun Tryz.prog cfg 121 9 cd121 [.s 2] := ⟨rfl, Tryz.f121, _, Tryz.func121, rfl, rfl, by kernel_rfl, by kernel_rfl⟩
@[go_sem] theorem ok121 : calleeOK Tryz.prog 121 = true := by kernel_rfl
@[go_sem] theorem ex121 : (cfg.ext 121).isSome = false := rfl
def cd110 : Cd := .seq (R [c0 2 (.tk (.c (ks [])))] [0]) (.seq (.seq (R [c0 6 (.mv (.s 0)), c0 7 (.call none (.c (kf 121)) [(.s 6)]), cb 8 (.bin .lss .any (.s 7) (.c (ki .i64 1)))] [0, 8]) (.ite (.s 8) (.seq (R [c0 2 (.tk (.c (ks [])))] [2]) (.ret)) (.skip))) (.seq (R [c0 9 (.mv (.s 0)), c0 10 (.call none (.c (kf 120)) [(.s 9)]), c0 3 (.tk (.s 10))] [3]) (.seq (R [c0 12 (.mv (.s 3)), c0 13 (.mv (.s 3)), c0 14 (.len 1 (.s 13)), c0 15 (.bin .sub .any (.s 14) (.c (ki .i64 1))), c0 16 (.sl 1 (.s 12) none (some (.s 15))), c0 17 (.call none (.c (kf 119)) [(.s 16)]), c0 11 (.mv (.s 17)), c0 18 (.ext (.s 11) 0), c0 19 (.ext (.s 11) 1), c0 4 (.tk (.s 18)), c0 5 (.tk (.s 19))] [4]) (.seq (R [c0 20 (.mv (.s 4)), c0 2 (.tk (.s 20))] [2]) (.ret)))))
theorem fun110 : Fun Tryz.prog cfg 110 21 cd110 [.s 2] := ⟨rfl, Tryz.f110, _, Tryz.func110, rfl, rfl, by kernel_rfl, by kernel_rfl⟩
@[go_sem] theorem ok110 : calleeOK Tryz.prog 110 = true := by kernel_rfl
@[go_sem] theorem ex110 : (cfg.ext 110).isSome = false := rfl
variable {h : DHeap}
theorem rname_lim (s : Str) (hs : s.length ≤ 1099511627776) : lim Tryz.prog cfg 136 [vs s] h = some (vb (nameOK s), h) := by
  refine lim_funp fun136 rfl (by simp) rfl rfl ?_
  delta cd136
  simp -implicitDefEqProofs -dsimp only [go_sem]
  refine wp_for (σ := Nat) (fun k => [(0, vs s), (3, vi (k : Nat))]) (fun _ => []) (fun k => s.length - k) (fun k => k ≤ s.length ∧ (s.take k).all okc = true) 0 (by simp) rfl rfl ?_
  rintro k ⟨hk, hj⟩ N hN
  simp -implicitDefEqProofs -dsimp only [go_sem]
  refine ⟨fun h1 => ?_, fun h1 => ?_⟩
  · repeat' first | intro _ | refine And.intro ?_ ?_ | refine Exists.intro (by omega) ?_
    all_goals first
      | exact hN (k + 1) _ (by omega) ⟨by omega, take_all (by omega) hj ((okc_iff _).2 (by omega))⟩ (by simp -implicitDefEqProofs -dsimp only [go_sem, wrap_succ (show k < 9223372036854775807 by omega)])
      | (have := not_all (p := okc) (l := s) (k := k) (by omega) ((okc_not _).2 (by omega))
         simp [nameOK, this])
  · have : k = s.length := by omega
    subst this
    rw [List.take_length] at hj
    simp [nameOK, hj]
    grind

/-- Names, each with a slash ahead. -/
def flatP (l : List Str) : Str := l.flatMap fun s => 47 :: s
theorem flatP_join : ∀ (l : List Str), l ≠ [] → flatP l = 47 :: Lib.join l [47]
  | [], h => absurd rfl h
  | [a], _ => by simp [flatP, join_one]
  | a :: b :: l, _ => by
    have := flatP_join (b :: l) (by simp)
    rw [join_cons, ← this]
    simp [flatP]
theorem flatP_path {l : List Str} : (if flatP l = [] then [47] else flatP l) = pathOf l := by
  by_cases h : l = []
  · subst h; simp [flatP, pathOf, join_nil]
  · rw [flatP_join l h]; simp [pathOf]
theorem flatP_le (l : List Str) (h : ∀ s ∈ l, s.length ≤ 16) : (flatP l).length ≤ 17 * l.length := by
  induction l with
  | nil => simp [flatP]
  | cons a l ih =>
    have h1 := h a List.mem_cons_self
    have h2 := ih fun s hs => h s (List.mem_cons_of_mem _ hs)
    simp only [flatP, List.flatMap_cons, List.length_append, List.length_cons] at h2 ⊢
    omega
theorem rof_lim (own : Bool) (l : List Str) (hl : l.length ≤ 1048576) (hs : ∀ s ∈ l, s.length ≤ 1099511627776) : lim Tryz.prog cfg 119 [vts own l] h = some (ofV l, h) := by
  refine lim_funp fun119 rfl (by simp) (by simp [heapFree, free_ts]) (by unfold ofV; split <;> rfl) ?_
  delta cd119
  simp -implicitDefEqProofs -dsimp only [go_sem]
  refine ⟨fun h1 => ?_, fun h1 => ?_⟩
  · have : okL l = false := by simp [okL]; omega
    simp [ofV, this]
  refine wp_for (σ := Nat) (fun k => [(0, vts false l), (4, vs (flatP (l.take k))), (5, vi (k : Nat))]) (fun _ => []) (fun k => l.length - k) (fun k => k ≤ l.length ∧ ∀ s ∈ l.take k, nameOK s = true) 0 (by simp) rfl rfl ?_
  rintro k ⟨hk, hj⟩ N hN
  have hfl := flatP_le (l.take k) fun s hsk => nameOK_le (hj s hsk)
  rw [List.length_take] at hfl
  by_cases hkl : k < l.length
  · have hn := rname_lim (h := []) l[k] (hs _ (List.getElem_mem hkl))
    simp -implicitDefEqProofs -dsimp only [go_sem, hn]
    refine ⟨fun _ => ⟨hkl, fun h2 => ⟨?_, hkl, ?_, ?_⟩, fun h2 => ?_⟩, fun h2 => by omega⟩
    · omega
    · have := nameOK_le h2
      simp; omega
    · refine hN (k + 1) _ (by omega) ⟨by omega, ?_⟩ ?_
      · rw [List.take_succ_eq_append_getElem hkl]
        intro s hs'
        rcases List.mem_append.1 hs' with h3 | h3
        · exact hj s h3
        · simp at h3; subst h3; exact h2
      · have hf : flatP (l.take (k + 1)) = flatP (l.take k) ++ [47] ++ l[k] := by
          rw [List.take_succ_eq_append_getElem hkl]; simp only [flatP, List.flatMap_append, List.flatMap_cons, List.flatMap_nil, List.append_nil, List.append_assoc, List.cons_append, List.nil_append]
        simp -implicitDefEqProofs -dsimp only [go_sem, wrap_succ (show k < 9223372036854775807 by omega), hf]
    · have : okL l = false := by
        simp only [okL, Bool.and_eq_false_iff]
        right
        rw [← Bool.not_eq_true, List.all_eq_true]
        intro hall
        have := hall _ (List.getElem_mem hkl)
        rw [h2] at this
        cases this
      simp [ofV, this]
  · have hk' : k = l.length := by omega
    subst hk'
    rw [List.take_length] at hj
    have hok : okL l = true := by
      simp only [okL, Bool.and_eq_true, decide_eq_true_eq, List.all_eq_true]
      exact ⟨by omega, hj⟩
    have hp := flatP_path (l := l)
    simp -implicitDefEqProofs -dsimp only [go_sem]
    refine ⟨fun h2 => by omega, fun _ => ⟨fun h2 => ?_, fun h2 => ?_⟩⟩
    · rw [List.take_length] at h2
      rw [if_pos h2] at hp
      simp [ofV, hok, ← hp]
    · rw [List.take_length] at h2 ⊢
      rw [if_neg h2] at hp
      simp [ofV, hok, hp]

def glue (s : Str) : List Str → List Str
  | [] => []
  | x :: xs => (s ++ x) :: xs
theorem glue_nil (l : List Str) : glue [] l = l := by cases l <;> rfl
theorem sp_slash (r : Str) : sp (47 :: r) = [] :: sp r := by
  have h : aft (47 :: r) = 47 :: r := by simp [aft]
  rw [sp_cons h]; simp [seg]
theorem sp_char {c : UInt8} (hc : c ≠ 47) (r : Str) : sp (c :: r) = glue [c] (sp r) := by
  have h1 : aft (c :: r) = aft r := by simp [aft, hc]
  have h2 : seg (c :: r) = c :: seg r := by simp [seg, hc]
  rcases aft_cases r with h | ⟨r', h⟩
  · rw [sp_nil (h1.trans h), sp_nil h]; rfl
  · rw [sp_cons (h1.trans h), sp_cons h, h2]; rfl
theorem glue_glue (s : Str) (c : UInt8) (l : List Str) : glue s (glue [c] l) = glue (s ++ [c]) l := by
  cases l <;> simp [glue]
theorem cut_lim (p : Str) (hp : p.length ≤ 1048576) : lim Tryz.prog cfg 120 [vs p] h = some (vts true (cutP p), h) := by
  refine lim_funp fun120 rfl (by simp) rfl (by simp [heapFree, free_ts]) ?_
  delta cd120
  simp -implicitDefEqProofs -dsimp only [go_sem]
  refine wp_for (σ := Nat × List Str × Str) (fun x => [(0, vs p), (3, vts true x.2.1), (4, vs x.2.2), (5, vi (x.1 : Nat))]) (fun _ => []) (fun x => p.length - x.1)
    (fun x => 1 ≤ x.1 ∧ (x.1 ≤ p.length ∨ x.1 = 1) ∧ x.2.1.length ≤ x.1 ∧ x.2.2.length ≤ x.1 ∧ (x.1 = 1 → x.2.1 = []) ∧ sp (p.drop 1) = x.2.1 ++ glue x.2.2 (sp (p.drop x.1))) (1, [], []) (by simp [glue_nil]) rfl rfl ?_
  rintro ⟨i, l, s⟩ ⟨h1, h2, h3, h4, h7, h5⟩ N hN
  dsimp only at h1 h2 h3 h4 h5 h7
  by_cases hi : i < p.length
  · have hd : p.drop i = p[i] :: p.drop (i + 1) := List.drop_eq_getElem_cons hi
    have hx : (p.take (i + 1)).drop i = [p[i]] := by
      rw [List.take_succ_eq_append_getElem hi, List.drop_append_of_le_length (by simp; omega), List.drop_eq_nil_of_le (by simp; omega)]; rfl
    simp -implicitDefEqProofs -dsimp only [go_sem, wrap_succ (show i < 9223372036854775807 by omega), hx]
    refine ⟨fun _ => ⟨hi, fun h6 => ⟨?_, ?_⟩, fun h6 => ⟨by omega, by omega, by omega, by omega, by omega, ?_⟩⟩, fun h6 => by omega⟩
    · unfold maxLenD; omega
    · have h6' : p[i] = 47 := UInt8.toNat_inj.1 (by show p[i].toNat = 47; omega)
      refine hN (i + 1, l ++ [s], []) _ (by simp only; omega) ⟨by simp only; omega, by simp only; omega, by simp; omega, by simp, by simp only; omega, ?_⟩ (by simp -implicitDefEqProofs -dsimp only [go_sem])
      rw [h5, hd, h6', sp_slash, glue_nil]
      simp [glue]
    · have h6' : p[i] ≠ 47 := fun e => h6 (by rw [e]; rfl)
      refine hN (i + 1, l, s ++ [p[i]]) _ (by simp only; omega) ⟨by simp only; omega, by simp only; omega, by simp only; omega, by simp; omega, by simp only; omega, ?_⟩ (by simp -implicitDefEqProofs -dsimp only [go_sem])
      rw [h5, hd, sp_char h6', glue_glue]
  · have hd : p.drop i = [] := List.drop_eq_nil_of_le (by omega)
    have hsp : sp (p.drop 1) = l ++ [s] := by rw [h5, hd, sp_nil (by simp [aft])]; simp [glue]
    simp -implicitDefEqProofs -dsimp only [go_sem]
    refine ⟨fun h6 => by omega, fun _ => ⟨fun h6 => ?_, fun h6 => ⟨?_, ?_⟩⟩⟩
    · have : i = 1 := by rw [h6] at h2; simp at h2; omega
      simp [cutP, h6, h7 this]
    · unfold maxLenD; omega
    · simp only [cutP, if_neg h6, hsp]

theorem cut_sizes (p : Str) : (cutP p).length ≤ p.length + 1 ∧ ∀ s ∈ cutP p, s.length ≤ p.length := by
  unfold cutP
  split
  · simp
  · have key : ∀ (n : Nat) (r : Str), r.length ≤ n → (sp r).length ≤ r.length + 1 ∧ ∀ s ∈ sp r, s.length ≤ r.length := by
      intro n
      induction n with
      | zero => intro r hr; have : r = [] := List.length_eq_zero_iff.1 (by omega); subst this; rw [sp_nil (by simp [aft])]; simp
      | succ n ih =>
        intro r hr
        have hse : (seg r).length + (aft r).length = r.length := by rw [← List.length_append, seg_aft]
        rcases aft_cases r with h | ⟨r', h⟩
        · rw [sp_nil h]; simp
        · rw [sp_cons h]
          rw [h] at hse
          simp only [List.length_cons] at hse ⊢
          obtain ⟨i1, i2⟩ := ih r' (by omega)
          refine ⟨by omega, fun s hs => ?_⟩
          rcases List.mem_cons.1 hs with rfl | hs
          · omega
          · have := i2 s hs; omega
    obtain ⟨k1, k2⟩ := key _ (p.drop 1) (Nat.le_refl _)
    simp only [List.length_drop] at k1 k2
    exact ⟨by omega, fun s hs => by have := k2 s hs; omega⟩
theorem rvalid_lim (p : Str) (hp : p.length ≤ 1048575) : lim Tryz.prog cfg 109 [vs p] h = some (vb (parse p).isSome, h) := by
  refine lim_funp fun109 rfl (by simp) rfl rfl ?_
  delta cd109
  have hcs := cut_sizes p
  have hx := cut_lim (h := []) p (by omega)
  have hy := rof_lim (h := []) false (cutP p) (by omega) (fun s hs => by have := hcs.2 s hs; omega)
  have hv := valid_iff p
  by_cases hok : okL (cutP p) = true
  · have hy' : ofV (cutP p) = .tup [vs (pathOf (cutP p)), vi 0] := if_pos hok
    rw [hok, Bool.true_and] at hv
    have hpl := path_len hok
    simp -implicitDefEqProofs -dsimp only [go_sem, hx, hy, hy']
    rw [← hv]
    refine ⟨fun h1 => ?_, fun h1 => ⟨fun h2 => ?_, fun h2 => ⟨fun h3 => ?_, fun h3 => ?_⟩⟩⟩
    · rw [decide_eq_false]; intro e; rw [e] at hpl; omega
    · rw [decide_eq_false]; intro e; rw [e] at hpl; omega
    · rw [decide_eq_true h3]
    · rw [decide_eq_false h3]
  · have hy' : ofV (cutP p) = .tup [vs [], vi 1] := if_neg hok
    rw [Bool.not_eq_true] at hok
    rw [hok, Bool.false_and] at hv
    simp -implicitDefEqProofs -dsimp only [go_sem, hx, hy, hy', ← hv]
theorem rdepth_lim (p : Str) (hp : p.length ≤ 1048575) : lim Tryz.prog cfg 121 [vs p] h = some (vi (depthP p), h) := by
  refine lim_funp fun121 rfl (by simp) rfl rfl ?_
  delta cd121
  have hx := cut_lim (h := []) p (by omega)
  have hy := rvalid_lim (h := []) p hp
  simp -implicitDefEqProofs -dsimp only [go_sem, hx, hy]
  unfold depthP
  cases hq : parse p with
  | none => simp
  | some l => simp [cut_some hq]
theorem depth_names (p : Str) : depthP p < 1 ↔ namesP p = [] := by
  unfold depthP namesP
  cases parse p with
  | none => simp
  | some l => cases l <;> simp; omega
theorem names_cut {p : Str} (h : ¬ namesP p = []) : cutP p = namesP p := by
  unfold namesP at *
  cases hq : parse p with
  | none => rw [hq] at h; simp at h
  | some l => rw [cut_some hq]; rfl
theorem rparent_lim (p : Str) (hp : p.length ≤ 1048575) : lim Tryz.prog cfg 110 [vs p] h = some (vs (parentP p), h) := by
  refine lim_funp fun110 rfl (by simp) rfl rfl ?_
  delta cd110
  have hx := cut_lim (h := []) p (by omega)
  have hy := rdepth_lim (h := []) p hp
  have hd := depth_names p
  by_cases h0 : namesP p = []
  · simp -implicitDefEqProofs -dsimp only [go_sem, hx, hy]
    exact ⟨fun _ => by simp [parentP, h0], fun h1 => absurd (hd.2 h0) h1⟩
  · rw [names_cut h0] at hx
    have hpos := List.length_pos_iff.2 h0
    have hn := names_le p
    have hw := wrap_pred hpos (by omega)
    have hok := okL_sub (m := (namesP p).take ((namesP p).length - 1)) (names_ok p) (by simp) (fun s hs => List.mem_of_mem_take hs)
    have hj := rof_lim (h := []) false _ (join_ok hok).1 (fun s hs => by have := nameOK_le ((okL_names hok).2 s hs); omega)
    have hj' : ofV ((namesP p).take ((namesP p).length - 1)) = .tup [vs (pathOf ((namesP p).take ((namesP p).length - 1))), vi 0] := if_pos hok
    simp -implicitDefEqProofs -dsimp only [go_sem, hx, hy, hw, List.drop_zero, hj, hj']
    exact ⟨fun h1 => absurd (hd.1 h1) h0, fun _ => ⟨by omega, by omega, by simp [parentP, h0, List.dropLast_eq_take]⟩⟩
theorem cmpF_same {l m : List Str} (k : Nat) (hk : k ≤ l.length) (hj : l.take k = m.take k) : cmpF Lib.compareBytes l m = cmpF Lib.compareBytes (l.drop k) (m.drop k) := by
  induction k generalizing l m with
  | zero => simp
  | succ k ih =>
    match l, m, hk, hj with
    | [], _, hk, _ => simp at hk
    | a :: l, [], _, hj => simp at hj
    | a :: l, b :: m, hk, hj =>
      simp only [List.take_succ_cons, List.cons.injEq] at hj
      obtain ⟨rfl, hj⟩ := hj
      simp only [List.drop_succ_cons, cmpF]
      rw [if_neg (by simp [(cmpB_zero a a).2 rfl])]
      exact ih (by simpa using hk) hj
end Go.DS

/-
  Walks: the reference's functions of touch; the laws.
-/
namespace Go.DS
open Go Go.Proofs
set_option maxRecDepth 100000
set_option linter.unusedVariables false
set_option linter.unusedSimpArgs false
def cd99 : Cd := .seq (R [c0 1 (.new false (.s 0)), c0 2 (.mv (.c (kn 2))), c0 3 (.mv (.c (kn 2)))] [1, 6, 7, 8]) (.seq (R [c0 9 (.mov 3 (.s 1)), c0 10 (.ld false 1 (.s 9)), c0 4 (.tk (.s 10))] [1, 4, 6, 7, 8]) (.seq (.seq (R [c0 11 (.mv (.s 4)), cb 12 (.call none (.c (kf 109)) [(.s 11)]), cb 13 (.un .not (.s 12))] [1, 4, 6, 7, 8, 13]) (.ite (.s 13) (.seq (R [c0 2 (.mv (.c (kn 2))), c0 3 (.mv (.c (kn 2)))] [1, 2, 3, 6, 7, 8]) (.ret)) (.skip))) (.seq (R [c0 14 (.mv (.s 4)), c0 15 (.call none (.c (kf 110)) [(.s 14)]), c0 5 (.tk (.s 15))] [1, 4, 5, 6, 7, 8]) (.seq (R [c0 16 (.mv (.s 4)), c0 17 (.bld [ks [], ki .u8 0] [(0, 1, (.s 16)), (1, 1, (.c (ki .u8 101)))]), c0 6 (.new false (.c (.agg [ks [], ki .u8 0]))), cn (.st 2 (.s 6) (.s 17))] [1, 4, 5, 6, 7, 8]) (.seq (R [c0 18 (.mv (.s 4)), c0 19 (.bld [ks [], ki .u8 0] [(0, 1, (.s 18)), (1, 1, (.c (ki .u8 118)))]), c0 7 (.new false (.c (.agg [ks [], ki .u8 0]))), cn (.st 2 (.s 7) (.s 19))] [1, 4, 5, 6, 7, 8]) (.seq (R [c0 20 (.mv (.s 4)), c0 21 (.bld [ks [], ki .u8 0] [(0, 1, (.s 20)), (1, 1, (.c (ki .u8 107)))]), c0 8 (.new false (.c (.agg [ks [], ki .u8 0]))), cn (.st 2 (.s 8) (.s 21))] [1, 4, 5, 6, 7, 8]) (.seq (.seq (R [c0 22 (.mov 2 (.s 1)), c0 23 (.ld false 1 (.s 22))] [1, 4, 5, 6, 7, 8, 23]) (.block 0 (.seq (R [cb 25 (.bin .eql .any (.s 23) (.c (ki .i64 1))), cb 24 (.tk (.s 25))] [1, 4, 5, 6, 7, 8, 23, 24]) (.ite (.s 24) (.seq (.seq (R [c0 26 (.mv (.s 4)), cb 27 (.bin .eql .any (.s 26) (.c (ks [47])))] [1, 5, 6, 7, 8, 27]) (.ite (.s 27) (.seq (R [c0 28 (.ld true 2 (.s 6)), c0 29 (.bsl 2 [(.s 28)]), c0 2 (.mv (.s 29)), c0 3 (.mv (.c (kn 2)))] [1, 2, 3, 6, 7, 8]) (.ret)) (.skip))) (.seq (RD [cd (some 30) false none (.mv (.s 5)) false false [5], cd (some 31) false none (.bld [ks [], ki .u8 0] [(0, 1, (.s 30)), (1, 1, (.c (ki .u8 101)))]) false false [30], cd (some 32) false none (.ld true 2 (.s 6)) false false [6], cd (some 33) false none (.bsl 2 [(.s 31), (.s 32)]) false false [31, 32], cd (some 34) false none (.ld true 2 (.s 6)) false false [6], cd (some 35) false none (.ld true 2 (.s 7)) false false [7], cd (some 36) false none (.mv (.s 5)) false false [5], cd (some 37) false none (.bld [ks [], ki .u8 0] [(0, 1, (.s 36)), (1, 1, (.c (ki .u8 107)))]) false false [36], cd (some 38) false none (.bsl 2 [(.s 34), (.s 35), (.s 37)]) false false [34, 35, 37], cd (some 2) false none (.mv (.s 33)) false false [33], cd (some 3) false none (.mv (.s 38)) false false [38]] [1, 2, 3, 6, 7, 8] []) (.ret))) (.seq (R [cb 40 (.bin .eql .any (.s 23) (.c (ki .i64 2))), cb 39 (.tk (.s 40))] [1, 4, 5, 6, 7, 8, 23, 39]) (.ite (.s 39) (.seq (R [c0 41 (.mv (.s 4)), cb 42 (.bin .neq .any (.s 41) (.c (ks [47])))] [1, 5, 6, 7, 8, 42]) (.ite (.s 42) (.seq (RD [cd (some 43) false none (.ld true 2 (.s 6)) false false [6], cd (some 44) false none (.ld true 2 (.s 8)) false false [8], cd (some 45) false none (.bsl 2 [(.s 43), (.s 44)]) false false [43, 44], cd (some 46) false none (.ld true 2 (.s 6)) false false [6], cd (some 47) false none (.ld true 2 (.s 7)) false false [7], cd (some 48) false none (.mv (.s 5)) false false [5], cd (some 49) false none (.bld [ks [], ki .u8 0] [(0, 1, (.s 48)), (1, 1, (.c (ki .u8 107)))]) false false [48], cd (some 50) false none (.bsl 2 [(.s 46), (.s 47), (.s 49)]) false false [46, 47, 49], cd (some 2) false none (.mv (.s 45)) false false [45], cd (some 3) false none (.mv (.s 50)) false false [50]] [1, 2, 3, 6, 7, 8] []) (.ret)) (.skip))) (.seq (R [cb 52 (.bin .eql .any (.s 23) (.c (ki .i64 3))), cb 51 (.tk (.s 52))] [1, 4, 6, 7, 8, 23, 51]) (.ite (.s 51) (.seq (R [c0 53 (.mv (.s 4)), cb 54 (.bin .neq .any (.s 53) (.c (ks [47])))] [1, 6, 7, 8, 54]) (.ite (.s 54) (.seq (RD [cd (some 55) false none (.ld true 2 (.s 6)) false false [6], cd (some 56) false none (.bsl 2 [(.s 55)]) false false [55], cd (some 57) false none (.ld true 2 (.s 7)) false false [7], cd (some 58) false none (.bsl 2 [(.s 57)]) false false [57], cd (some 2) false none (.mv (.s 56)) false false [56], cd (some 3) false none (.mv (.s 58)) false false [58]] [1, 2, 3, 6, 7, 8] []) (.ret)) (.skip))) (.seq (R [cb 60 (.bin .eql .any (.s 23) (.c (ki .i64 6))), cb 59 (.tk (.s 60))] [1, 4, 6, 7, 8, 23, 59]) (.ite (.s 59) (.seq (R [c0 61 (.mv (.s 4)), cb 62 (.bin .neq .any (.s 61) (.c (ks [47])))] [1, 6, 7, 8, 62]) (.ite (.s 62) (.seq (RD [cd (some 63) false none (.ld true 2 (.s 6)) false false [6], cd (some 64) false none (.ld true 2 (.s 7)) false false [7], cd (some 65) false none (.bsl 2 [(.s 63), (.s 64)]) false false [63, 64], cd (some 66) false none (.ld true 2 (.s 7)) false false [7], cd (some 67) false none (.bsl 2 [(.s 66)]) false false [66], cd (some 2) false none (.mv (.s 65)) false false [65], cd (some 3) false none (.mv (.s 67)) false false [67]] [1, 2, 3, 6, 7, 8] []) (.ret)) (.skip))) (.seq (R [cb 69 (.bin .eql .any (.s 23) (.c (ki .i64 4))), cb 68 (.tk (.s 69))] [1, 6, 7, 8, 23, 68]) (.ite (.s 68) (.seq (R [c0 70 (.ld true 2 (.s 6)), c0 71 (.ld true 2 (.s 7)), c0 72 (.bsl 2 [(.s 70), (.s 71)]), c0 2 (.mv (.s 72)), c0 3 (.mv (.c (kn 2)))] [1, 2, 3, 6, 7, 8]) (.ret)) (.seq (R [cb 74 (.bin .eql .any (.s 23) (.c (ki .i64 5))), cb 73 (.tk (.s 74))] [1, 6, 7, 8, 73]) (.ite (.s 73) (.seq (R [c0 75 (.ld true 2 (.s 6)), c0 76 (.ld true 2 (.s 8)), c0 77 (.bsl 2 [(.s 75), (.s 76)]), c0 2 (.mv (.s 77)), c0 3 (.mv (.c (kn 2)))] [1, 2, 3, 6, 7, 8]) (.ret)) (.skip))))))))))))))) (.seq (R [c0 2 (.mv (.c (kn 2))), c0 3 (.mv (.c (kn 2)))] [1, 2, 3, 6, 7, 8]) (.ret)))))))))
theorem fun99 : Fun Tryz.prog cfg 99 78 cd99 [.s 2, .s 3] := ⟨rfl, Tryz.f99, _, Tryz.func99, rfl, rfl, by kernel_rfl, by kernel_rfl⟩
@[go_sem] theorem ok99 : calleeOK Tryz.prog 99 = true := by kernel_rfl
@[go_sem] theorem ex99 : (cfg.ext 99).isSome = false := rfl
def cd100 : Cd := .seq (R [cb 4 (.tk (.c (kb false)))] [0, 1]) (.seq (.seq (R [c0 5 (.tk (.c (ki .i64 0)))] [0, 1, 5]) (.block 0 (LP [0, 1, 5] (.seq (.seq (R [c0 7 (.mv (.s 5)), c0 8 (.mv (.s 0)), c0 9 (.len 1 (.s 8)), cb 10 (.bin .lss .any (.s 7) (.s 9))] [0, 1, 5, 10]) (.ite (.s 10) (.skip) (.exit 0))) (.seq (.block 1 (.seq (R [c0 6 (.tk (.c (ki .i64 0)))] [0, 1, 5, 6]) (.block 2 (LP [0, 1, 5, 6] (.seq (.seq (R [c0 13 (.mv (.s 6)), c0 14 (.mv (.s 1)), c0 15 (.len 1 (.s 14)), cb 16 (.bin .lss .any (.s 13) (.s 15))] [0, 1, 5, 6, 16]) (.ite (.s 16) (.skip) (.exit 2))) (.seq (.block 3 (.seq (RD [cd (some 19) false none (.mv (.s 0)) false false [0], cd (some 20) false none (.mv (.s 5)) false false [5], cd (some 21) false none (.ixp 2 (.s 19) (.s 20)) false false [19, 20], cd (some 22) false none (.ld true 2 (.s 21)) false false [21], cd (some 23) false none (.mv (.s 1)) false false [1], cd (some 24) false none (.mv (.s 6)) false false [6], cd (some 25) false none (.ixp 2 (.s 23) (.s 24)) false false [23, 24], cd (some 26) false none (.ld true 2 (.s 25)) false false [25], cd (some 27) true none (.bin .eql (.flat [2, 0]) (.s 22) (.s 26)) false false [22, 26]] [0, 1, 5, 6, 27] []) (.ite (.s 27) (.seq (R [cb 4 (.tk (.c (kb true)))] [4]) (.ret)) (.skip)))) (R [c0 17 (.mv (.s 6)), c0 18 (.bin .add .any (.s 17) (.c (ki .i64 1))), c0 6 (.tk (.s 18))] [0, 1, 5, 6]))))))) (R [c0 11 (.mv (.s 5)), c0 12 (.bin .add .any (.s 11) (.c (ki .i64 1))), c0 5 (.tk (.s 12))] [0, 1, 5])))))) (.seq (R [cb 4 (.tk (.c (kb false)))] [4]) (.ret)))
theorem fun100 : Fun Tryz.prog cfg 100 28 cd100 [.s 4] := ⟨rfl, Tryz.f100, _, Tryz.func100, rfl, rfl, by kernel_rfl, by kernel_rfl⟩
@[go_sem] theorem ok100 : calleeOK Tryz.prog 100 = true := by kernel_rfl
@[go_sem] theorem ex100 : (cfg.ext 100).isSome = false := rfl
def cd85 : Cd := .seq (R [c0 2 (.new false (.s 0)), c0 3 (.new false (.s 1)), cb 4 (.tk (.c (kb false)))] [2, 3]) (.seq (R [c0 10 (.ld true 8 (.s 2)), c0 11 (.call none (.c (kf 99)) [(.s 10)]), c0 9 (.tk (.s 11)), c0 12 (.exh (.s 9)), c0 13 (.ext (.s 9) 1), c0 5 (.tk (.s 12)), c0 6 (.tk (.s 13))] [2, 3, 5, 6]) (.seq (R [c0 15 (.ld true 8 (.s 3)), c0 16 (.call none (.c (kf 99)) [(.s 15)]), c0 14 (.tk (.s 16)), c0 17 (.exh (.s 14)), c0 18 (.ext (.s 14) 1), c0 7 (.tk (.s 17)), c0 8 (.tk (.s 18))] [2, 3, 5, 6, 7, 8]) (.seq (R [c0 19 (.mv (.s 6)), c0 20 (.mv (.s 7)), cb 21 (.call none (.c (kf 100)) [(.s 19), (.s 20)]), cb 22 (.mv (.s 21)), cg 23 22 false (.mv (.s 6)), cg 24 22 false (.mv (.s 8)), ch 25 22 false (.call none (.c (kf 100)) [(.s 23), (.s 24)]), cb 26 (.pick (.s 22) (.c (kb true)) (.s 25)), cb 27 (.mv (.s 26)), cg 28 27 false (.mv (.s 8)), cg 29 27 false (.mv (.s 5)), ch 30 27 false (.call none (.c (kf 100)) [(.s 28), (.s 29)]), cb 31 (.pick (.s 27) (.c (kb true)) (.s 30)), cb 4 (.tk (.s 31))] [2, 3, 4]) (.ret))))
theorem fun85 : Fun Tryz.prog cfg 85 32 cd85 [.s 4] := ⟨rfl, Tryz.f85, _, Tryz.func85, rfl, rfl, by kernel_rfl, by kernel_rfl⟩
@[go_sem] theorem ok85 : calleeOK Tryz.prog 85 = true := by kernel_rfl
@[go_sem] theorem ex85 : (cfg.ext 85).isSome = false := rfl
def cd84 : Cd := .seq (R [c0 1 (.new false (.s 0)), cb 2 (.tk (.c (kb false)))] [1]) (.seq (R [c0 3 (.mov 2 (.s 1)), c0 4 (.ld false 1 (.s 3)), cb 5 (.bin .eql .any (.s 4) (.c (ki .i64 7))), cb 6 (.mv (.s 5)), cg 7 6 false (.mov 2 (.s 1)), cg 8 6 false (.ld false 1 (.s 7)), ch 9 6 false (.bin .eql .any (.s 8) (.c (ki .i64 8))), cb 10 (.pick (.s 6) (.c (kb true)) (.s 9)), cb 11 (.mv (.s 10)), cg 12 11 false (.mov 2 (.s 1)), cg 13 11 false (.ld false 1 (.s 12)), ch 14 11 false (.bin .eql .any (.s 13) (.c (ki .i64 9))), cb 15 (.pick (.s 11) (.c (kb true)) (.s 14)), cb 2 (.tk (.s 15))] [1, 2]) (.ret))
theorem fun84 : Fun Tryz.prog cfg 84 16 cd84 [.s 2] := ⟨rfl, Tryz.f84, _, Tryz.func84, rfl, rfl, by kernel_rfl, by kernel_rfl⟩
@[go_sem] theorem ok84 : calleeOK Tryz.prog 84 = true := by kernel_rfl
@[go_sem] theorem ex84 : (cfg.ext 84).isSome = false := rfl
def cd69 : Cd := .seq (R [c0 2 (.new false (.s 0)), c0 3 (.new false (.s 1)), cb 4 (.tk (.c (kb false)))] [2, 3]) (.seq (.seq (R [c0 5 (.mov 2 (.s 2)), c0 6 (.ld false 1 (.s 5)), cb 7 (.bin .eql .any (.s 6) (.c (ki .i64 0))), cb 8 (.mv (.s 7)), cg 9 8 false (.mov 2 (.s 3)), cg 10 8 false (.ld false 1 (.s 9)), ch 11 8 false (.bin .eql .any (.s 10) (.c (ki .i64 0))), cb 12 (.pick (.s 8) (.c (kb true)) (.s 11))] [2, 3, 12]) (.ite (.s 12) (.seq (R [cb 4 (.tk (.c (kb false)))] [2, 3, 4]) (.ret)) (.skip))) (.seq (R [c0 13 (.ld true 8 (.s 2)), cb 14 (.call none (.c (kf 84)) [(.s 13)]), cb 15 (.mv (.s 14)), cg 16 15 false (.ld true 8 (.s 3)), ch 17 15 false (.call none (.c (kf 84)) [(.s 16)]), cb 18 (.pick (.s 15) (.c (kb true)) (.s 17)), cb 19 (.mv (.s 18)), cg 20 19 false (.mov 0 (.s 2)), cg 21 19 false (.ld false 1 (.s 20)), cg 22 19 false (.mov 0 (.s 3)), cg 23 19 false (.ld false 1 (.s 22)), ch 24 19 false (.bin .eql .any (.s 21) (.s 23)), cb 25 (.pick (.s 19) (.c (kb true)) (.s 24)), cb 26 (.mv (.s 25)), cg 27 26 false (.ld true 8 (.s 2)), cg 28 26 false (.ld true 8 (.s 3)), ch 29 26 false (.call none (.c (kf 85)) [(.s 27), (.s 28)]), cb 30 (.pick (.s 26) (.c (kb true)) (.s 29)), cb 4 (.tk (.s 30))] [2, 3, 4]) (.ret)))
theorem fun69 : Fun Tryz.prog cfg 69 31 cd69 [.s 4] := ⟨rfl, Tryz.f69, _, Tryz.func69, rfl, rfl, by kernel_rfl, by kernel_rfl⟩
@[go_sem] theorem ok69 : calleeOK Tryz.prog 69 = true := by kernel_rfl
@[go_sem] theorem ex69 : (cfg.ext 69).isSome = false := rfl
variable {h : DHeap}
theorem eqs_cel (c d : Cel) : eqs [2, 0] [.sc (.string (mkB c.1)), .sc (.int .u8 c.2.toNat)] [.sc (.string (mkB d.1)), .sc (.int .u8 d.2.toNat)] = some (decide (c = d)) := eqK_cel c d
theorem rcells_lim (c : Cmd) (hp : c.path.length ≤ 1048575) : lim Tryz.prog cfg 99 [cmdD c] h = some (.tup [.list false 2 (cls (usesP c).1), .list false 2 (cls (usesP c).2)], h) := by
  refine lim_funp fun99 rfl (by simp) rfl (by simp [heapFree, heapFree.all, free_cls]) ?_
  delta cd99
  have v := rvalid_lim (h := []) c.path hp
  have u := rparent_lim (h := []) c.path hp
  unfold usesP
  cases h1 : parse c.path with
  | none =>
    rw [h1] at v
    simp -implicitDefEqProofs -dsimp only [go_sem, v]
    simp [cls]
  | some l =>
    rw [h1] at v
    have hr := root_iff h1
    by_cases o4 : c.op = 4
    · simp -implicitDefEqProofs -dsimp only [go_sem, v, u, o4]
      simp [cls, ofP]
    by_cases o5 : c.op = 5
    · simp -implicitDefEqProofs -dsimp only [go_sem, v, u, o4, o5]
      simp [cls, ofP]
    by_cases r : c.path = [47]
    · have r' := hr.2 r
      rw [r] at v u r'
      by_cases o1 : c.op = 1
      · simp -implicitDefEqProofs -dsimp only [go_sem, v, u, r, r', o1]
        simp [cls, ofP]
      by_cases o2 : c.op = 2
      · simp -implicitDefEqProofs -dsimp only [go_sem, v, u, r, r', o2]
        simp [cls, ofP]
      by_cases o3 : c.op = 3
      · simp -implicitDefEqProofs -dsimp only [go_sem, v, u, r, r', o3]
        simp [cls, ofP]
      by_cases o6 : c.op = 6
      · simp -implicitDefEqProofs -dsimp only [go_sem, v, u, r, r', o6]
        simp [cls, ofP]
      · simp -implicitDefEqProofs -dsimp only [go_sem, v, u, r, r', o4, o5, o1, o2, o3, o6]
        simp [cls, ofP]
    have r' : ¬ parentP c.path = [] := fun e => r (hr.1 e)
    by_cases o1 : c.op = 1
    · simp -implicitDefEqProofs -dsimp only [go_sem, v, u, r, r', o1]
      simp [cls, ofP]
    by_cases o2 : c.op = 2
    · simp -implicitDefEqProofs -dsimp only [go_sem, v, u, r, r', o2]
      simp [cls, ofP]
    by_cases o3 : c.op = 3
    · simp -implicitDefEqProofs -dsimp only [go_sem, v, u, r, r', o3]
      simp [cls, ofP]
    by_cases o6 : c.op = 6
    · simp -implicitDefEqProofs -dsimp only [go_sem, v, u, r, r', o6]
      simp [cls, ofP]
    · simp -implicitDefEqProofs -dsimp only [go_sem, v, u, r, r', o4, o5, o1, o2, o3, o6]
      simp [cls, ofP]
theorem meet_lim (o1 o2 : Bool) (a b : List Cel) (ha : a.length ≤ 1000) (hb : b.length ≤ 1000) : lim Tryz.prog cfg 100 [.list o1 2 (cls a), .list o2 2 (cls b)] h = some (vb (meetB a b), h) := by
  refine lim_funp fun100 rfl (by simp) (by simp [heapFree, free_cls]) rfl ?_
  delta cd100
  simp -implicitDefEqProofs -dsimp only [go_sem]
  refine wp_for (σ := Nat) (fun k => [(0, .list false 2 (cls a)), (1, .list false 2 (cls b)), (5, vi (k : Nat))]) (fun _ => []) (fun k => a.length - k) (fun k => k ≤ a.length ∧ ∀ j (hj : j < a.length), j < k → a[j] ∉ b) 0 (by simp) rfl rfl ?_
  rintro k ⟨hk, hj⟩ N hN
  by_cases hlt : k < a.length
  · have h1 : ((k : Int) < (a.length : Int)) := by omega
    simp -implicitDefEqProofs -dsimp only [go_sem, h1]
    refine wp_for (σ := Nat) (fun i => [(0, .list false 2 (cls a)), (1, .list false 2 (cls b)), (5, vi (k : Nat)), (6, vi (i : Nat))]) (fun _ => []) (fun i => b.length - i) (fun i => i ≤ b.length ∧ ∀ j (hj : j < b.length), j < i → a[k] ≠ b[j]) 0 (by simp) rfl rfl ?_
    rintro i ⟨hi, hji⟩ N2 hN2
    by_cases hlt2 : i < b.length
    · have h2 : ((i : Int) < (b.length : Int)) := by omega
      simp -implicitDefEqProofs -dsimp only [go_sem, h2, hlt, hlt2, eqs_cel]
      refine ⟨fun hc => ?_, fun hc => hN2 (i + 1) _ (by omega) ⟨by omega, fun j hj1 hj2 => ?_⟩ ?_⟩
      · have e : meetB a b = true := by
          unfold meetB
          rw [List.any_eq_true]
          exact ⟨a[k], List.getElem_mem _, by simp only [decide_eq_true_eq]; rw [hc]; exact List.getElem_mem _⟩
        rw [e]
      · by_cases e : j = i
        · subst e; exact hc
        · exact hji j hj1 (by omega)
      · simp -implicitDefEqProofs -dsimp only [go_sem, wrap_succ (show i < 9223372036854775807 by omega)]
    · have h2 : ¬ ((i : Int) < (b.length : Int)) := by omega
      simp -implicitDefEqProofs -dsimp only [go_sem, h2]
      refine hN (k + 1) _ (by omega) ⟨by omega, fun j hj1 hj2 => ?_⟩ ?_
      · by_cases e : j = k
        · subst e
          intro hmem
          obtain ⟨q, hq, e⟩ := List.getElem_of_mem hmem
          exact hji q hq (by omega) e.symm
        · exact hj j hj1 (by omega)
      · simp -implicitDefEqProofs -dsimp only [go_sem, wrap_succ (show k < 9223372036854775807 by omega)]
  · have h1 : ¬ ((k : Int) < (a.length : Int)) := by omega
    have e : meetB a b = false := by
      unfold meetB
      rw [← Bool.not_eq_true, List.any_eq_true]
      rintro ⟨c, hc, h2⟩
      obtain ⟨q, hq, rfl⟩ := List.getElem_of_mem hc
      exact hj q hq (by omega) (by simpa using h2)
    simp -implicitDefEqProofs -dsimp only [go_sem, h1, e]
theorem rpaths_lim (a b : Cmd) (ha : a.path.length ≤ 1048575) (hb : b.path.length ≤ 1048575) : lim Tryz.prog cfg 85 [cmdD a, cmdD b] h = some (vb (pathsB a b), h) := by
  refine lim_funp fun85 rfl (by simp) rfl rfl ?_
  delta cd85
  have v := rcells_lim (h := []) a ha
  have w := rcells_lim (h := []) b hb
  have la := uses_le a
  have lb := uses_le b
  have x := meet_lim (h := []) false false (usesP a).2 (usesP b).1 (by omega) (by omega)
  have y := meet_lim (h := []) false false (usesP a).2 (usesP b).2 (by omega) (by omega)
  have z := meet_lim (h := []) false false (usesP b).2 (usesP a).1 (by omega) (by omega)
  rw [paths_meet]
  generalize meetB (usesP a).2 (usesP b).1 = p at x ⊢
  generalize meetB (usesP a).2 (usesP b).2 = q at y ⊢
  generalize meetB (usesP b).2 (usesP a).1 = r at z ⊢
  cases p <;> cases q <;> cases r <;> simp -implicitDefEqProofs -dsimp only [go_sem, v, w, x, y, z]
theorem rcontrol_lim (c : Cmd) : lim Tryz.prog cfg 84 [cmdD c] h = some (vb (controlB c), h) := by
  refine lim_funp fun84 rfl (by simp) rfl rfl ?_
  delta cd84
  have hb : controlB c = (decide (c.op = 7) || decide (c.op = 8) || decide (c.op = 9)) := by
    unfold controlB
    rw [Bool.eq_iff_iff]
    simp only [Bool.and_eq_true, Bool.or_eq_true, decide_eq_true_eq]
    omega
  rw [hb]
  by_cases h7 : c.op = 7
  · simp -implicitDefEqProofs -dsimp only [go_sem, h7]
  by_cases h8 : c.op = 8
  · simp -implicitDefEqProofs -dsimp only [go_sem, h7, h8]
  by_cases h9 : c.op = 9
  · simp -implicitDefEqProofs -dsimp only [go_sem, h7, h8, h9]
  · simp -implicitDefEqProofs -dsimp only [go_sem, h7, h8, h9]
theorem rboth_lim (a b : Cmd) (ha : a.path.length ≤ 1048575) (hb : b.path.length ≤ 1048575) : lim Tryz.prog cfg 69 [cmdD a, cmdD b] h = some (vb (bothB a b), h) := by
  refine lim_funp fun69 rfl (by simp) rfl rfl ?_
  delta cd69
  have v := rcontrol_lim (h := []) a
  have w := rcontrol_lim (h := []) b
  have x := rpaths_lim (h := []) a b ha hb
  unfold bothB
  by_cases o1 : a.op = 0
  · simp -implicitDefEqProofs -dsimp only [go_sem, o1]
    simp
  by_cases o2 : b.op = 0
  · simp -implicitDefEqProofs -dsimp only [go_sem, o1, o2]
    simp
  generalize controlB a = p at v ⊢
  generalize controlB b = q at w ⊢
  generalize pathsB a b = z at x ⊢
  cases p <;> cases q <;> cases z <;> simp -implicitDefEqProofs -dsimp only [go_sem, o1, o2, v, w, x] <;> by_cases o3 : a.client = b.client <;> simp [o3]
end Go.DS

/-
  How the reference puts one at its place: plain.
-/
namespace Go.DS
open Go
set_option linter.unusedVariables false
def stepI (x : Id) (s : List Id × Bool) (o : Id) : List Id × Bool :=
  ((if o = x then (if !s.2 && lessI x o then s.1 ++ [x] else s.1) else (if !s.2 && lessI x o then s.1 ++ [x] else s.1) ++ [o]), s.2 || lessI x o)
def setI (l : List Id) (x : Id) : List Id := if (l.foldl (stepI x) ([], false)).2 then (l.foldl (stepI x) ([], false)).1 else (l.foldl (stepI x) ([], false)).1 ++ [x]
/-- What holds of what was put so far. -/
structure PutOK (x : Id) (p : List Id) (s : List Id × Bool) : Prop where
  rises : Rises s.1
  mem : ∀ y, y ∈ s.1 ↔ (y ∈ p ∧ y ≠ x) ∨ (s.2 = true ∧ y = x)
  done : s.2 = true → ∃ y ∈ p, ordI x y < 0
  not : s.2 = false → ∀ y ∈ p, ¬ ordI x y < 0
theorem lessI_true {a b : Id} : lessI a b = true ↔ ordI a b < 0 := by simp [lessI]
theorem ordI_tri {a b : Id} (h1 : ¬ ordI a b < 0) (h2 : b ≠ a) : ordI b a < 0 := by
  rw [ordI_lt] at *
  have : ¬ (b.e = a.e ∧ b.n = a.n ∧ b.k = a.k) := fun ⟨e1, e2, e3⟩ => h2 (by cases a; cases b; simp_all)
  omega
theorem ordI_trans {a b c : Id} (h1 : ordI a b < 0) (h2 : ordI b c < 0) : ordI a c < 0 := by
  rw [ordI_lt] at *
  omega
theorem ordI_irr (a : Id) : ¬ ordI a a < 0 := by rw [ordI_lt]; omega
theorem rises_app {l : List Id} {o : Id} (h : Rises l) (h2 : ∀ y ∈ l, ordI y o < 0) : Rises (l ++ [o]) := by
  unfold Rises at *
  rw [List.pairwise_append]
  refine ⟨h, List.pairwise_singleton .., fun a ha b hb => ?_⟩
  rw [List.mem_singleton.1 hb]
  exact h2 a ha
theorem put_step {x : Id} {p : List Id} {s : List Id × Bool} (H : PutOK x p s) {o : Id} (ho : ∀ y ∈ p, ordI y o < 0) : PutOK x (p ++ [o]) (stepI x s o) := by
  obtain ⟨l, d⟩ := s
  obtain ⟨h1, h2, h3, h4⟩ := H
  dsimp only at h1 h2 h3 h4
  cases d with
  | true =>
    obtain ⟨z, hz, hxz⟩ := h3 rfl
    have hxo := ordI_trans hxz (ho z hz)
    have hne : o ≠ x := fun e => ordI_irr x (by rw [e] at hxo; exact hxo)
    have hl : ∀ y ∈ l, ordI y o < 0 := fun y hy => by
      rcases (h2 y).1 hy with ⟨hy, _⟩ | ⟨_, e⟩
      · exact ho y hy
      · rw [e]; exact hxo
    have es : stepI x (l, true) o = (l ++ [o], true) := by simp [stepI, hne]
    rw [es]
    refine ⟨rises_app h1 hl, fun y => ?_, fun _ => ⟨o, by simp, hxo⟩, fun h => (by cases h)⟩
    simp only [List.mem_append, List.mem_singleton, h2]
    constructor
    · rintro ((⟨a, b⟩ | ⟨_, b⟩) | b)
      · exact .inl ⟨.inl a, b⟩
      · exact .inr ⟨trivial, b⟩
      · exact .inl ⟨.inr b, by rw [b]; exact hne⟩
    · rintro (⟨a | a, b⟩ | ⟨_, b⟩)
      · exact .inl (.inl ⟨a, b⟩)
      · exact .inr a
      · exact .inl (.inr ⟨trivial, b⟩)
  | false =>
    have h4 := h4 rfl
    have hm : ∀ y, y ∈ l ↔ y ∈ p ∧ y ≠ x := fun y => by rw [h2]; simp
    have hl : ∀ y ∈ l, ordI y o < 0 := fun y hy => ho y ((hm y).1 hy).1
    cases c : lessI x o with
    | true =>
      have hxo := lessI_true.1 c
      have hne : o ≠ x := fun e => ordI_irr x (by rw [e] at hxo; exact hxo)
      have hlx : ∀ y ∈ l, ordI y x < 0 := fun y hy => ordI_tri (h4 y ((hm y).1 hy).1) ((hm y).1 hy).2
      have es : stepI x (l, false) o = (l ++ [x] ++ [o], true) := by simp [stepI, hne, c]
      rw [es]
      refine ⟨rises_app (rises_app h1 hlx) fun y hy => ?_, fun y => ?_, fun _ => ⟨o, by simp, hxo⟩, fun h => (by cases h)⟩
      · rcases List.mem_append.1 hy with hy | hy
        · exact hl y hy
        · rw [List.mem_singleton.1 hy]; exact hxo
      · simp only [List.mem_append, List.mem_singleton, hm]
        constructor
        · rintro ((⟨a, b⟩ | b) | b)
          · exact .inl ⟨.inl a, b⟩
          · exact .inr ⟨trivial, b⟩
          · exact .inl ⟨.inr b, by rw [b]; exact hne⟩
        · rintro (⟨a | a, b⟩ | ⟨_, b⟩)
          · exact .inl (.inl ⟨a, b⟩)
          · exact .inr a
          · exact .inl (.inr b)
    | false =>
      have hxo : ¬ ordI x o < 0 := fun h => by rw [lessI_true.2 h] at c; cases c
      have h4' : ∀ y ∈ p ++ [o], ¬ ordI x y < 0 := fun y hy => by
        rcases List.mem_append.1 hy with hy | hy
        · exact h4 y hy
        · rw [List.mem_singleton.1 hy]; exact hxo
      by_cases he : o = x
      · have es : stepI x (l, false) o = (l, false) := by simp [stepI, he, c, show lessI x x = false by rw [← he] at c ⊢; exact c]
        rw [es]
        refine ⟨h1, fun y => ?_, fun h => (by cases h), fun _ => h4'⟩
        simp only [List.mem_append, List.mem_singleton, hm]
        constructor
        · rintro ⟨a, b⟩; exact .inl ⟨.inl a, b⟩
        · rintro (⟨a | a, b⟩ | ⟨a, _⟩)
          · exact ⟨a, b⟩
          · exact absurd (a.trans he) b
          · cases a
      · have es : stepI x (l, false) o = (l ++ [o], false) := by simp [stepI, he, c]
        rw [es]
        refine ⟨rises_app h1 hl, fun y => ?_, fun h => (by cases h), fun _ => h4'⟩
        simp only [List.mem_append, List.mem_singleton, hm]
        constructor
        · rintro (⟨a, b⟩ | b)
          · exact .inl ⟨.inl a, b⟩
          · exact .inl ⟨.inr b, by rw [b]; exact he⟩
        · rintro (⟨a | a, b⟩ | ⟨a, _⟩)
          · exact .inl ⟨a, b⟩
          · exact .inr a
          · cases a
theorem put_take {x : Id} {l : List Id} (hl : Rises l) (k : Nat) (hk : k ≤ l.length) : PutOK x (l.take k) ((l.take k).foldl (stepI x) ([], false)) := by
  induction k with
  | zero => exact ⟨List.Pairwise.nil, fun y => by simp, fun h => (by cases h), fun _ y hy => by simp at hy⟩
  | succ k ih =>
    have hlt : k < l.length := by omega
    rw [List.take_succ_eq_append_getElem hlt, List.foldl_append]
    refine put_step (ih (by omega)) fun y hy => ?_
    obtain ⟨i, hi, e⟩ := List.mem_take_iff_getElem.1 hy
    rw [← e]
    exact List.pairwise_iff_getElem.1 hl i k (by omega) hlt (by omega)
theorem setI_ok {x : Id} {l : List Id} (hl : Rises l) : Rises (setI l x) ∧ ∀ y, y ∈ setI l x ↔ y = x ∨ y ∈ l := by
  have H := put_take (x := x) hl l.length (Nat.le_refl _)
  rw [List.take_length] at H
  unfold setI
  generalize l.foldl (stepI x) ([], false) = s at *
  obtain ⟨m, d⟩ := s
  obtain ⟨h1, h2, h3, h4⟩ := H
  dsimp only at h1 h2 h3 h4 ⊢
  cases d with
  | true =>
    refine ⟨h1, fun y => ?_⟩
    rw [if_pos rfl, h2]
    by_cases e : y = x <;> simp [e]
  | false =>
    rw [if_neg (by simp)]
    have hm : ∀ y, y ∈ m ↔ y ∈ l ∧ y ≠ x := fun y => by rw [h2]; simp
    refine ⟨rises_app h1 fun y hy => ordI_tri (h4 rfl y ((hm y).1 hy).1) ((hm y).1 hy).2, fun y => ?_⟩
    simp only [List.mem_append, List.mem_singleton, hm]
    by_cases e : y = x <;> simp [e]
theorem setI_put {x : Id} {l : List Id} (hl : Rises l) (hx : x ∉ l) : setI l x = putP l x := by
  obtain ⟨h1, h2⟩ := setI_ok (x := x) hl
  exact rises_eq h1 (put_rises hl) fun y => by rw [h2, put_mem]
theorem step_len (x : Id) (s : List Id × Bool) (o : Id) : (stepI x s o).1.length ≤ s.1.length + 2 := by
  unfold stepI
  dsimp only
  repeat' split
  all_goals first | omega | (simp only [List.length_append, List.length_cons, List.length_nil]; omega)
theorem foldStep_len (x : Id) (l : List Id) (s : List Id × Bool) : (l.foldl (stepI x) s).1.length ≤ s.1.length + 2 * l.length := by
  induction l generalizing s with
  | nil => exact Nat.le_add_right _ _
  | cons o l ih =>
    have h1 := ih (stepI x s o)
    have h2 := step_len x s o
    rw [List.foldl_cons, List.length_cons]
    omega
theorem step_snoc (x : Id) {l : List Id} {k : Nat} (hk : k < l.length) : (l.take (k + 1)).foldl (stepI x) ([], false) = stepI x ((l.take k).foldl (stepI x) ([], false)) l[k] := by
  rw [List.take_succ_eq_append_getElem hk, List.foldl_append]; rfl
theorem putP_len (l : List Id) (x : Id) : (putP l x).length ≤ l.length + 1 := by
  unfold putP
  split
  · omega
  · have h : ∀ l : List Id, (l.filter (fun y => decide (ordI y x < 0))).length + (l.filter (fun y => !decide (ordI y x < 0))).length = l.length := fun l => by
      induction l with
      | nil => rfl
      | cons a l ih =>
        by_cases c : ordI a x < 0 <;> simp [c] <;> omega
    have := h l
    simp only [List.length_append, List.length_cons]
    omega
theorem rclean_take (l : List Id) (k : Nat) : Rises ((l.take k).foldl putP []) := (rclean_go (l.take k) [] List.Pairwise.nil).1
theorem rcleanT_len (l : List Id) (k : Nat) : ((l.take k).foldl putP []).length ≤ k := by
  induction k with
  | zero => simp
  | succ k ih =>
    by_cases hk : k < l.length
    · rw [List.take_succ_eq_append_getElem hk, List.foldl_append]
      have := putP_len ((l.take k).foldl putP []) l[k]
      simp only [List.foldl_cons, List.foldl_nil]
      omega
    · rw [List.take_of_length_le (by omega)] at *
      omega
theorem lessI_eq (a b : Id) : lessI a b = if a.e = b.e then (if a.k = b.k then decide (a.n < b.n) else decide (a.k < b.k)) else decide (a.e < b.e) := by
  rw [Bool.eq_iff_iff, lessI_true, ordI_lt]
  split
  · split <;> simp only [decide_eq_true_eq] <;> omega
  · simp only [decide_eq_true_eq]; omega
end Go.DS

/-
  Walks: the reference's functions of instances, ballots, attributes.
-/
namespace Go.DS
open Go Go.Proofs
set_option maxRecDepth 100000
set_option linter.unusedVariables false
set_option linter.unusedSimpArgs false
def cd68 : Cd := .seq (R [c0 2 (.new false (.s 0)), c0 3 (.new false (.s 1)), cb 4 (.tk (.c (kb false)))] [2, 3]) (.seq (.seq (R [c0 5 (.mov 0 (.s 2)), c0 6 (.ld false 1 (.s 5)), c0 7 (.mov 0 (.s 3)), c0 8 (.ld false 1 (.s 7)), cb 9 (.bin .neq .any (.s 6) (.s 8))] [2, 3, 9]) (.ite (.s 9) (.seq (R [c0 10 (.mov 0 (.s 2)), c0 11 (.ld false 1 (.s 10)), c0 12 (.mov 0 (.s 3)), c0 13 (.ld false 1 (.s 12)), cb 14 (.bin .lss .any (.s 11) (.s 13)), cb 4 (.tk (.s 14))] [2, 3, 4]) (.ret)) (.skip))) (.seq (.seq (R [c0 15 (.mov 2 (.s 2)), c0 16 (.ld false 1 (.s 15)), c0 17 (.mov 2 (.s 3)), c0 18 (.ld false 1 (.s 17)), cb 19 (.bin .neq .any (.s 16) (.s 18))] [2, 3, 19]) (.ite (.s 19) (.seq (R [c0 20 (.mov 2 (.s 2)), c0 21 (.ld false 1 (.s 20)), c0 22 (.mov 2 (.s 3)), c0 23 (.ld false 1 (.s 22)), cb 24 (.bin .lss .any (.s 21) (.s 23)), cb 4 (.tk (.s 24))] [2, 3, 4]) (.ret)) (.skip))) (.seq (R [c0 25 (.mov 1 (.s 2)), c0 26 (.ld false 1 (.s 25)), c0 27 (.mov 1 (.s 3)), c0 28 (.ld false 1 (.s 27)), cb 29 (.bin .lss .any (.s 26) (.s 28)), cb 4 (.tk (.s 29))] [2, 3, 4]) (.ret))))
theorem fun68 : Fun Tryz.prog cfg 68 30 cd68 [.s 4] := ⟨rfl, Tryz.f68, _, Tryz.func68, rfl, rfl, by kernel_rfl, by kernel_rfl⟩
@[go_sem] theorem ok68 : calleeOK Tryz.prog 68 = true := by kernel_rfl
@[go_sem] theorem ex68 : (cfg.ext 68).isSome = false := rfl
def cd35 : Cd := .seq (R [c0 1 (.new false (.s 0)), cb 2 (.tk (.c (kb false)))] [1]) (.seq (R (c0 3 (.mov 0 (.s 1)) :: c0 4 (.ld false 1 (.s 3)) :: cb 5 (.bin .geq .any (.s 4) (.c (ki .i64 0))) :: cb 6 (.mv (.s 5)) :: cg 7 6 true (.mov 0 (.s 1)) :: cg 8 6 true (.ld false 1 (.s 7)) :: ch 9 6 true (.bin .leq .any (.s 8) (.c (ki .i64 1048576))) :: cb 10 (.pick (.s 6) (.s 9) (.c (kb false))) :: cb 11 (.mv (.s 10)) :: cg 12 11 true (.mov 1 (.s 1)) :: cg 13 11 true (.ld false 1 (.s 12)) :: ch 14 11 true (.bin .geq .any (.s 13) (.c (ki .i64 0))) :: cb 15 (.pick (.s 11) (.s 14) (.c (kb false))) :: cb 16 (.mv (.s 15)) :: cg 17 16 true (.mov 1 (.s 1)) :: cg 18 16 true (.ld false 1 (.s 17)) :: ch 19 16 true (.bin .leq .any (.s 18) (.c (ki .i64 31))) :: cb 20 (.pick (.s 16) (.s 19) (.c (kb false))) :: cb 21 (.mv (.s 20)) :: cg 22 21 true (.mov 2 (.s 1)) :: cg 23 21 true (.ld false 1 (.s 22)) :: ch 24 21 true (.bin .geq .any (.s 23) (.c (ki .i64 0))) :: cb 25 (.pick (.s 21) (.s 24) (.c (kb false))) :: cb 26 (.mv (.s 25)) :: cg 27 26 true (.mov 2 (.s 1)) :: cg 28 26 true (.ld false 1 (.s 27)) :: ch 29 26 true (.bin .leq .any (.s 28) (.c (ki .i64 1099511627776))) :: cb 30 (.pick (.s 26) (.s 29) (.c (kb false))) :: cb 2 (.tk (.s 30)) :: []) [1, 2]) (.ret))
theorem fun35 : Fun Tryz.prog cfg 35 31 cd35 [.s 2] := ⟨rfl, Tryz.f35, _, Tryz.func35, rfl, rfl, by kernel_rfl, by kernel_rfl⟩
@[go_sem] theorem ok35 : calleeOK Tryz.prog 35 = true := by kernel_rfl
@[go_sem] theorem ex35 : (cfg.ext 35).isSome = false := rfl
def cd88 : Cd := .seq (R [c0 3 (.new false (.s 1)), cb 4 (.tk (.c (kb false)))] [0, 3]) (.seq (.seq (R [c0 5 (.tk (.c (ki .i64 0)))] [0, 3, 5]) (.block 0 (LP [0, 3, 5] (.seq (.seq (R [c0 6 (.mv (.s 5)), c0 7 (.mv (.s 0)), c0 8 (.len 1 (.s 7)), cb 9 (.bin .lss .any (.s 6) (.s 8))] [0, 3, 5, 9]) (.ite (.s 9) (.skip) (.exit 0))) (.seq (.block 1 (.seq (RD [cd (some 12) false none (.mv (.s 0)) false false [0], cd (some 13) false none (.mv (.s 5)) false false [5], cd (some 14) false none (.ixp 3 (.s 12) (.s 13)) false false [12, 13], cd (some 15) false none (.ld true 3 (.s 14)) false false [14], cd (some 16) false none (.ld true 3 (.s 3)) false false [3], cd (some 17) true none (.bin .eql (.flat [0, 0, 0]) (.s 15) (.s 16)) false false [15, 16]] [0, 3, 5, 17] []) (.ite (.s 17) (.seq (R [cb 4 (.tk (.c (kb true)))] [3, 4]) (.ret)) (.skip)))) (R [c0 10 (.mv (.s 5)), c0 11 (.bin .add .any (.s 10) (.c (ki .i64 1))), c0 5 (.tk (.s 11))] [0, 3, 5])))))) (.seq (R [cb 4 (.tk (.c (kb false)))] [3, 4]) (.ret)))
theorem fun88 : Fun Tryz.prog cfg 88 18 cd88 [.s 4] := ⟨rfl, Tryz.f88, _, Tryz.func88, rfl, rfl, by kernel_rfl, by kernel_rfl⟩
@[go_sem] theorem ok88 : calleeOK Tryz.prog 88 = true := by kernel_rfl
@[go_sem] theorem ex88 : (cfg.ext 88).isSome = false := rfl
def cd75 : Cd := .seq (R [c0 3 (.new false (.s 1)), c0 4 (.tk (.c (kn 3)))] [0, 3]) (.seq (.seq (R [c0 8 (.mv (.s 0)), c0 9 (.ld true 3 (.s 3)), cb 10 (.call none (.c (kf 88)) [(.s 8), (.s 9)])] [0, 3, 10]) (.ite (.s 10) (.seq (R [c0 11 (.tk (.s 0)), c0 4 (.tk (.s 11))] [3, 4]) (.ret)) (.skip))) (.seq (R [c0 5 (.tk (.c (kn 3)))] [0, 3, 5]) (.seq (R [cb 6 (.tk (.c (kb false)))] [0, 3, 5, 6]) (.seq (.seq (R [c0 7 (.tk (.c (ki .i64 0)))] [0, 3, 5, 6, 7]) (.block 0 (LP [0, 3, 5, 6, 7] (.seq (.seq (R [c0 12 (.mv (.s 7)), c0 13 (.mv (.s 0)), c0 14 (.len 1 (.s 13)), cb 15 (.bin .lss .any (.s 12) (.s 14))] [0, 3, 5, 6, 7, 15]) (.ite (.s 15) (.skip) (.exit 0))) (.seq (.block 1 (.seq (.seq (RD [cd (some 18) true none (.mv (.s 6)) false false [6], cd (some 19) true none (.un .not (.s 18)) false false [18], cd (some 20) true none (.mv (.s 19)) false false [19], cd (some 21) false (some (20, true)) (.ld true 3 (.s 3)) false false [3], cd (some 22) false (some (20, true)) (.mv (.s 0)) false false [0], cd (some 23) false (some (20, true)) (.mv (.s 7)) false false [7], cd (some 24) false (some (20, true)) (.ixp 3 (.s 22) (.s 23)) false false [22, 23], cd (some 25) false (some (20, true)) (.ld true 3 (.s 24)) false false [24], cd (some 26) true (some (20, true)) (.call none (.c (kf 68)) [(.s 21), (.s 25)]) false false [21, 25], cd (some 27) true none (.pick (.s 20) (.s 26) (.c (kb false))) false false [20, 26]] [0, 3, 5, 6, 7, 27] []) (.ite (.s 27) (.seq (R [c0 28 (.tk (.s 5)), c0 29 (.ld true 3 (.s 3)), c0 30 (.bsl 3 [(.s 29)]), c0 31 (.app 3 28 false (.s 28) (.s 30)), c0 5 (.tk (.s 31))] [0, 3, 5, 7]) (R [cb 6 (.tk (.c (kb true)))] [0, 3, 5, 6, 7])) (.skip))) (R [c0 32 (.tk (.s 5)), c0 33 (.mv (.s 0)), c0 34 (.mv (.s 7)), c0 35 (.ixp 3 (.s 33) (.s 34)), c0 36 (.ld true 3 (.s 35)), c0 37 (.bsl 3 [(.s 36)]), c0 38 (.app 3 28 false (.s 32) (.s 37)), c0 5 (.tk (.s 38))] [0, 3, 5, 6, 7]))) (R [c0 16 (.mv (.s 7)), c0 17 (.bin .add .any (.s 16) (.c (ki .i64 1))), c0 7 (.tk (.s 17))] [0, 3, 5, 6, 7])))))) (.seq (.seq (R [cb 39 (.mv (.s 6)), cb 40 (.un .not (.s 39))] [3, 5, 40]) (.ite (.s 40) (R [c0 41 (.tk (.s 5)), c0 42 (.ld true 3 (.s 3)), c0 43 (.bsl 3 [(.s 42)]), c0 44 (.app 3 28 false (.s 41) (.s 43)), c0 5 (.tk (.s 44))] [3, 5]) (.skip))) (.seq (R [c0 45 (.tk (.s 5)), c0 4 (.tk (.s 45))] [3, 4]) (.ret)))))))
theorem fun75 : Fun Tryz.prog cfg 75 46 cd75 [.s 4] := ⟨rfl, Tryz.f75, _, Tryz.func75, rfl, rfl, by kernel_rfl, by kernel_rfl⟩
@[go_sem] theorem ok75 : calleeOK Tryz.prog 75 = true := by kernel_rfl
@[go_sem] theorem ex75 : (cfg.ext 75).isSome = false := rfl
def cd53 : Cd := .seq (R [c0 2 (.tk (.c (kn 3)))] [0]) (.seq (R [c0 3 (.tk (.c (kn 3)))] [0, 3]) (.seq (.seq (R [c0 4 (.tk (.c (ki .i64 0)))] [0, 3, 4]) (.block 0 (LP [0, 3, 4] (.seq (.seq (R [c0 5 (.mv (.s 4)), c0 6 (.mv (.s 0)), c0 7 (.len 1 (.s 6)), cb 8 (.bin .lss .any (.s 5) (.s 7))] [0, 3, 4, 8]) (.ite (.s 8) (.skip) (.exit 0))) (.seq (.block 1 (R [c0 11 (.mv (.s 3)), c0 12 (.mv (.s 0)), c0 13 (.mv (.s 4)), c0 14 (.ixp 3 (.s 12) (.s 13)), c0 15 (.ld true 3 (.s 14)), c0 16 (.call none (.c (kf 75)) [(.s 11), (.s 15)]), c0 3 (.tk (.s 16))] [0, 3, 4])) (R [c0 9 (.mv (.s 4)), c0 10 (.bin .add .any (.s 9) (.c (ki .i64 1))), c0 4 (.tk (.s 10))] [0, 3, 4])))))) (.seq (R [c0 17 (.tk (.s 3)), c0 2 (.tk (.s 17))] [2]) (.ret))))
theorem fun53 : Fun Tryz.prog cfg 53 18 cd53 [.s 2] := ⟨rfl, Tryz.f53, _, Tryz.func53, rfl, rfl, by kernel_rfl, by kernel_rfl⟩
@[go_sem] theorem ok53 : calleeOK Tryz.prog 53 = true := by kernel_rfl
@[go_sem] theorem ex53 : (cfg.ext 53).isSome = false := rfl
def cd61 : Cd := .seq (R [cb 2 (.tk (.c (kb false)))] [0]) (.seq (.seq (R [c0 3 (.tk (.c (ki .i64 1)))] [0, 3]) (.block 0 (LP [0, 3] (.seq (.seq (R [c0 4 (.mv (.s 3)), c0 5 (.mv (.s 0)), c0 6 (.len 1 (.s 5)), cb 7 (.bin .lss .any (.s 4) (.s 6))] [0, 3, 7]) (.ite (.s 7) (.skip) (.exit 0))) (.seq (.block 1 (.seq (RD [cd (some 10) false none (.mv (.s 0)) false false [0], cd (some 11) false none (.mv (.s 3)) false false [3], cd (some 12) false none (.bin .sub .any (.s 11) (.c (ki .i64 1))) false false [11], cd (some 13) false none (.ixp 3 (.s 10) (.s 12)) false false [10, 12], cd (some 14) false none (.ld true 3 (.s 13)) false false [13], cd (some 15) false none (.mv (.s 0)) false false [0], cd (some 16) false none (.mv (.s 3)) false false [3], cd (some 17) false none (.ixp 3 (.s 15) (.s 16)) false false [15, 16], cd (some 18) false none (.ld true 3 (.s 17)) false false [17], cd (some 19) true none (.call none (.c (kf 68)) [(.s 14), (.s 18)]) false false [14, 18], cd (some 20) true none (.un .not (.s 19)) false false [19]] [0, 3, 20] []) (.ite (.s 20) (.seq (R [cb 2 (.tk (.c (kb false)))] [2]) (.ret)) (.skip)))) (R [c0 8 (.mv (.s 3)), c0 9 (.bin .add .any (.s 8) (.c (ki .i64 1))), c0 3 (.tk (.s 9))] [0, 3])))))) (.seq (R [cb 2 (.tk (.c (kb true)))] [2]) (.ret)))
theorem fun61 : Fun Tryz.prog cfg 61 21 cd61 [.s 2] := ⟨rfl, Tryz.f61, _, Tryz.func61, rfl, rfl, by kernel_rfl, by kernel_rfl⟩
@[go_sem] theorem ok61 : calleeOK Tryz.prog 61 = true := by kernel_rfl
@[go_sem] theorem ex61 : (cfg.ext 61).isSome = false := rfl
def cd70 : Cd := .seq (R [c0 4 (.tk (.c (kn 3)))] [0, 1]) (.seq (R [c0 5 (.tk (.c (kn 3)))] [0, 1, 5]) (.seq (R [c0 6 (.tk (.s 5)), c0 7 (.mv (.s 0)), c0 8 (.app 3 28 false (.s 6) (.s 7)), c0 5 (.tk (.s 8))] [1, 5]) (.seq (R [c0 9 (.tk (.s 5)), c0 10 (.mv (.s 1)), c0 11 (.app 3 28 false (.s 9) (.s 10)), c0 5 (.tk (.s 11))] [5]) (.seq (R [c0 12 (.mv (.s 5)), c0 13 (.call none (.c (kf 53)) [(.s 12)]), c0 4 (.tk (.s 13))] [4]) (.ret)))))
theorem fun70 : Fun Tryz.prog cfg 70 14 cd70 [.s 4] := ⟨rfl, Tryz.f70, _, Tryz.func70, rfl, rfl, by kernel_rfl, by kernel_rfl⟩
@[go_sem] theorem ok70 : calleeOK Tryz.prog 70 = true := by kernel_rfl
@[go_sem] theorem ex70 : (cfg.ext 70).isSome = false := rfl
def cd37 : Cd := .seq (R [c0 2 (.new false (.s 0)), c0 3 (.new false (.s 1)), cb 4 (.tk (.c (kb false)))] [2, 3]) (.seq (.seq (R [c0 5 (.tk (.c (ki .i64 0)))] [2, 3, 5]) (.block 0 (LP [2, 3, 5] (.seq (.seq (R [c0 6 (.mv (.s 5)), c0 7 (.mov 1 (.s 3)), c0 8 (.ld false 5 (.s 7)), c0 9 (.len 1 (.s 8)), cb 10 (.bin .lss .any (.s 6) (.s 9))] [2, 3, 5, 10]) (.ite (.s 10) (.skip) (.exit 0))) (.seq (.block 1 (.seq (RD (cd (some 13) false none (.mov 1 (.s 3)) false false [3] :: cd (some 14) false none (.ld false 5 (.s 13)) false false [13] :: cd (some 15) false none (.mv (.s 5)) false false [5] :: cd (some 16) false none (.ixp 3 (.s 14) (.s 15)) false false [14, 15] :: cd (some 17) false none (.ld true 3 (.s 16)) false false [16] :: cd (some 18) true none (.call none (.c (kf 35)) [(.s 17)]) false false [17] :: cd (some 19) true none (.un .not (.s 18)) false false [18] :: cd (some 20) true none (.mv (.s 19)) false false [19] :: cd (some 21) false (some (20, false)) (.mov 1 (.s 3)) false false [3] :: cd (some 22) false (some (20, false)) (.ld false 5 (.s 21)) false false [21] :: cd (some 23) false (some (20, false)) (.mv (.s 5)) false false [5] :: cd (some 24) false (some (20, false)) (.ixp 3 (.s 22) (.s 23)) false false [22, 23] :: cd (some 25) false (some (20, false)) (.ld true 3 (.s 24)) false false [24] :: cd (some 26) false (some (20, false)) (.ld true 3 (.s 2)) false false [2] :: cd (some 27) true (some (20, false)) (.bin .eql (.flat [0, 0, 0]) (.s 25) (.s 26)) false false [25, 26] :: cd (some 28) true none (.pick (.s 20) (.c (kb true)) (.s 27)) false false [20, 27] :: cd (some 29) true none (.mv (.s 28)) false false [28] :: cd (some 30) false (some (29, false)) (.mov 1 (.s 3)) false false [3] :: cd (some 31) false (some (29, false)) (.ld false 5 (.s 30)) false false [30] :: cd (some 32) false (some (29, false)) (.mv (.s 5)) false false [5] :: cd (some 33) false (some (29, false)) (.ixp 3 (.s 31) (.s 32)) false false [31, 32] :: cd (some 34) false (some (29, false)) (.mov 0 (.s 33)) false false [33] :: cd (some 35) false (some (29, false)) (.ld false 1 (.s 34)) false false [34] :: cd (some 36) false (some (29, false)) (.mov 0 (.s 2)) false false [2] :: cd (some 37) false (some (29, false)) (.ld false 1 (.s 36)) false false [36] :: cd (some 38) true (some (29, false)) (.bin .neq .any (.s 35) (.s 37)) false false [35, 37] :: cd (some 39) true none (.pick (.s 29) (.c (kb true)) (.s 38)) false false [29, 38] :: []) [2, 3, 5, 39] []) (.ite (.s 39) (.seq (R [cb 4 (.tk (.c (kb false)))] [2, 3, 4]) (.ret)) (.skip)))) (R [c0 11 (.mv (.s 5)), c0 12 (.bin .add .any (.s 11) (.c (ki .i64 1))), c0 5 (.tk (.s 12))] [2, 3, 5])))))) (.seq (R [c0 40 (.mov 0 (.s 3)), c0 41 (.ld false 1 (.s 40)), cb 42 (.bin .geq .any (.s 41) (.c (ki .i64 0))), cb 43 (.mv (.s 42)), cg 44 43 true (.mov 0 (.s 3)), cg 45 43 true (.ld false 1 (.s 44)), ch 46 43 true (.bin .leq .any (.s 45) (.c (ki .i64 1099511627776))), cb 47 (.pick (.s 43) (.s 46) (.c (kb false))), cb 48 (.mv (.s 47)), cg 49 48 true (.mov 1 (.s 3)), cg 50 48 true (.ld false 5 (.s 49)), cg 51 48 true (.len 1 (.s 50)), ch 52 48 true (.bin .leq .any (.s 51) (.c (ki .i64 1024))), cb 53 (.pick (.s 48) (.s 52) (.c (kb false))), cb 54 (.mv (.s 53)), cg 55 54 true (.mov 1 (.s 3)), cg 56 54 true (.ld false 5 (.s 55)), ch 57 54 true (.call none (.c (kf 61)) [(.s 56)]), cb 58 (.pick (.s 54) (.s 57) (.c (kb false))), cb 4 (.tk (.s 58))] [2, 3, 4]) (.ret)))
theorem fun37 : Fun Tryz.prog cfg 37 59 cd37 [.s 4] := ⟨rfl, Tryz.f37, _, Tryz.func37, rfl, rfl, by kernel_rfl, by kernel_rfl⟩
@[go_sem] theorem ok37 : calleeOK Tryz.prog 37 = true := by kernel_rfl
@[go_sem] theorem ex37 : (cfg.ext 37).isSome = false := rfl
def cd47 : Cd := .seq (R [c0 4 (.new false (.s 1)), c0 5 (.new false (.s 2)), c0 6 (.new false (.c (.agg [ki .i64 0, kn 3])))] [0, 4, 5, 6]) (.seq (R [c0 7 (.tk (.c (kn 3)))] [0, 4, 5, 6, 7]) (.seq (R [c0 8 (.tk (.c (ki .i64 0)))] [0, 4, 5, 6, 7, 8]) (.seq (.seq (R [c0 9 (.tk (.c (ki .i64 0)))] [0, 4, 5, 6, 7, 8, 9]) (.block 0 (LP [0, 4, 5, 6, 7, 8, 9] (.seq (.seq (R [c0 11 (.mv (.s 9)), c0 12 (.mv (.s 0)), c0 13 (.len 1 (.s 12)), cb 14 (.bin .lss .any (.s 11) (.s 13))] [0, 4, 5, 6, 7, 8, 9, 14]) (.ite (.s 14) (.skip) (.exit 0))) (.seq (.block 1 (.seq (RD [cd (some 17) false none (.mv (.s 0)) false false [0], cd (some 18) false none (.mv (.s 9)) false false [9], cd (some 19) false none (.ixp 13 (.s 17) (.s 18)) false false [17, 18], cd (some 20) false none (.mov 3 (.s 19)) false false [19], cd (some 21) false none (.ld true 8 (.s 20)) false false [20], cd (some 22) false none (.ld true 8 (.s 5)) false false [5], cd (some 23) true none (.call none (.c (kf 69)) [(.s 21), (.s 22)]) false false [21, 22], cd (some 10) true none (.mv (.s 23)) false false [23]] [0, 4, 5, 6, 7, 8, 9, 10] []) (.seq (RD (cd (some 24) false none (.mv (.s 0)) false false [0] :: cd (some 25) false none (.mv (.s 9)) false false [9] :: cd (some 26) false none (.ixp 13 (.s 24) (.s 25)) false false [24, 25] :: cd (some 27) false none (.mov 0 (.s 26)) false false [26] :: cd (some 28) false none (.ld true 3 (.s 27)) false false [27] :: cd (some 29) false none (.ld true 3 (.s 4)) false false [4] :: cd (some 30) true none (.bin .neq (.flat [0, 0, 0]) (.s 28) (.s 29)) false false [28, 29] :: cd (some 31) true none (.mv (.s 30)) false false [30] :: cd (some 32) false (some (31, true)) (.mv (.s 0)) false false [0] :: cd (some 33) false (some (31, true)) (.mv (.s 9)) false false [9] :: cd (some 34) false (some (31, true)) (.ixp 13 (.s 32) (.s 33)) false false [32, 33] :: cd (some 35) false (some (31, true)) (.mov 0 (.s 34)) false false [34] :: cd (some 36) false (some (31, true)) (.mov 0 (.s 35)) false false [35] :: cd (some 37) false (some (31, true)) (.ld false 1 (.s 36)) false false [36] :: cd (some 38) false (some (31, true)) (.mov 0 (.s 4)) false false [4] :: cd (some 39) false (some (31, true)) (.ld false 1 (.s 38)) false false [38] :: cd (some 40) true (some (31, true)) (.bin .eql .any (.s 37) (.s 39)) false false [37, 39] :: cd (some 41) true none (.pick (.s 31) (.s 40) (.c (kb false))) false false [31, 40] :: cd (some 42) true none (.mv (.s 41)) false false [41] :: cd (some 43) true (some (42, true)) (.mv (.s 10)) false false [10] :: cd (some 44) true none (.pick (.s 42) (.s 43) (.c (kb false))) false false [42, 43] :: []) [0, 4, 5, 6, 7, 8, 9, 44] []) (.ite (.s 44) (.seq (R [c0 45 (.tk (.s 7)), c0 46 (.mv (.s 0)), c0 47 (.mv (.s 9)), c0 48 (.ixp 13 (.s 46) (.s 47)), c0 49 (.mov 0 (.s 48)), c0 50 (.ld true 3 (.s 49)), c0 51 (.bsl 3 [(.s 50)]), c0 52 (.app 3 28 false (.s 45) (.s 51)), c0 7 (.tk (.s 52))] [0, 4, 5, 6, 7, 8, 9]) (R [c0 53 (.mv (.s 8)), c0 54 (.mv (.s 0)), c0 55 (.mv (.s 9)), c0 56 (.ixp 13 (.s 54) (.s 55)), c0 57 (.mov 11 (.s 56)), c0 58 (.mov 0 (.s 57)), c0 59 (.ld false 1 (.s 58)), c0 60 (.mm true (.s 53) (.s 59)), c0 8 (.tk (.s 60))] [0, 4, 5, 6, 7, 8, 9])) (.skip))))) (R [c0 15 (.mv (.s 9)), c0 16 (.bin .add .any (.s 15) (.c (ki .i64 1))), c0 9 (.tk (.s 16))] [0, 4, 5, 6, 7, 8, 9])))))) (.seq (R [c0 61 (.mv (.s 8)), c0 62 (.bin .add .any (.s 61) (.c (ki .i64 1))), c0 63 (.mv (.s 7)), c0 64 (.call none (.c (kf 53)) [(.s 63)]), c0 65 (.bld [ki .i64 0, kz 3] [(0, 1, (.s 62)), (1, 1, (.s 64))]), cn (.st 2 (.s 6) (.s 65))] [4, 5, 6]) (.ret)))))
theorem fun47 : Fun Tryz.prog cfg 47 66 cd47 [.b 6 true 2] := ⟨rfl, Tryz.f47, _, Tryz.func47, rfl, rfl, by kernel_rfl, by kernel_rfl⟩
@[go_sem] theorem ok47 : calleeOK Tryz.prog 47 = true := by kernel_rfl
@[go_sem] theorem ex47 : (cfg.ext 47).isSome = false := rfl
def cd48 : Cd := .seq (R [c0 2 (.new false (.s 0)), c0 3 (.new false (.s 1)), c0 4 (.new false (.c (.agg [ki .i64 0, kn 3])))] [2, 3, 4]) (.seq (RD [cd (some 5) false none (.mov 0 (.s 2)) false false [2], cd (some 6) false none (.ld false 1 (.s 5)) false false [5], cd (some 7) false none (.mov 0 (.s 3)) false false [3], cd (some 8) false none (.ld false 1 (.s 7)) false false [7], cd (some 9) false none (.mm true (.s 6) (.s 8)) false false [6, 8], cd (some 10) false none (.mov 1 (.s 2)) false false [2], cd (some 11) false none (.ld false 5 (.s 10)) false false [10], cd (some 12) false none (.mov 1 (.s 3)) false false [3], cd (some 13) false none (.ld false 5 (.s 12)) false false [12], cd (some 14) false none (.call none (.c (kf 70)) [(.s 11), (.s 13)]) false false [11, 13], cd (some 15) false none (.bld [ki .i64 0, kz 3] [(0, 1, (.s 9)), (1, 1, (.s 14))]) false false [9, 14], cd none false none (.st 2 (.s 4) (.s 15)) false false [4, 15]] [2, 3, 4] []) (.ret))
theorem fun48 : Fun Tryz.prog cfg 48 16 cd48 [.b 4 true 2] := ⟨rfl, Tryz.f48, _, Tryz.func48, rfl, rfl, by kernel_rfl, by kernel_rfl⟩
@[go_sem] theorem ok48 : calleeOK Tryz.prog 48 = true := by kernel_rfl
@[go_sem] theorem ex48 : (cfg.ext 48).isSome = false := rfl
variable {h : DHeap}
theorem rlessD_lim (a b : Id) : lim Tryz.prog cfg 68 [.agg [vi a.e, vi a.n, vi a.k], .agg [vi b.e, vi b.n, vi b.k]] h = some (vb (lessI a b), h) := by
  refine lim_funp fun68 rfl (by simp) rfl rfl ?_
  delta cd68
  rw [lessI_eq]
  by_cases h1 : a.e = b.e
  · by_cases h2 : a.k = b.k
    · rw [if_pos h1, if_pos h2]
      simp -implicitDefEqProofs -dsimp only [go_sem, eq_true h1, eq_true h2] <;> simp
    · rw [if_pos h1, if_neg h2]
      simp -implicitDefEqProofs -dsimp only [go_sem, eq_true h1, eq_false h2] <;> simp
  · rw [if_neg h1]
    simp -implicitDefEqProofs -dsimp only [go_sem, eq_false h1] <;> simp
theorem rvalidD_lim (x : Id) : lim Tryz.prog cfg 35 [.agg [vi x.e, vi x.n, vi x.k]] h = some (vb (validI x), h) := by
  refine lim_funp fun35 rfl (by simp) rfl rfl ?_
  delta cd35
  unfold validI
  by_cases c1 : 0 ≤ x.e
  case neg => simp -implicitDefEqProofs -dsimp only [go_sem, c1] <;> simp [c1]
  by_cases c2 : x.e ≤ 1048576
  case neg => simp -implicitDefEqProofs -dsimp only [go_sem, c1, c2] <;> simp [c2]
  by_cases c3 : 0 ≤ x.n
  case neg => simp -implicitDefEqProofs -dsimp only [go_sem, c1, c2, c3] <;> simp [c3]
  by_cases c4 : x.n ≤ 31
  case neg => simp -implicitDefEqProofs -dsimp only [go_sem, c1, c2, c3, c4] <;> simp [c4]
  by_cases c5 : 0 ≤ x.k
  case neg => simp -implicitDefEqProofs -dsimp only [go_sem, c1, c2, c3, c4, c5] <;> simp [c5]
  by_cases c6 : x.k ≤ 1099511627776
  case neg => simp -implicitDefEqProofs -dsimp only [go_sem, c1, c2, c3, c4, c5, c6] <;> simp [c6]
  simp -implicitDefEqProofs -dsimp only [go_sem, c1, c2, c3, c4, c5, c6] <;> simp
theorem rhasD_lim (own : Bool) (l : List Id) (x : Id) (hl : l.length ≤ 1099511627776) :
    lim Tryz.prog cfg 88 [.list own 3 (idr l), .agg [vi x.e, vi x.n, vi x.k]] h = some (vb (decide (x ∈ l)), h) := by
  refine lim_funp fun88 rfl (by simp) (by simp [heapFree, heapFree.all, free_idr]) rfl ?_
  delta cd88
  simp -implicitDefEqProofs -dsimp only [go_sem]
  refine wp_for (σ := Nat) (fun k => [(0, .list false 3 (idr l)), (3, .box [vi x.e, vi x.n, vi x.k]), (5, vi (k : Nat))]) (fun _ => []) (fun k => l.length - k) (fun k => k ≤ l.length ∧ ∀ j (hj : j < l.length), j < k → l[j] ≠ x) 0 (by simp) rfl rfl ?_
  rintro k ⟨hk, hj⟩ N hN
  by_cases hlt : k < l.length
  · have h1 : ((k : Int) < (l.length : Int)) := by omega
    by_cases hc : l[k] = x
    · have e : x ∈ l := by rw [← hc]; exact List.getElem_mem hlt
      rw [decide_eq_true e]
      simp -implicitDefEqProofs -dsimp only [go_sem, wp_RD, h1, hlt, eq_true hc]
    · simp -implicitDefEqProofs -dsimp only [go_sem, wp_RD, h1, hlt, eq_false hc]
      refine hN (k + 1) _ (by omega) ⟨by omega, fun j hj1 hj2 => ?_⟩ ?_
      · by_cases e : j = k
        · subst e; exact hc
        · exact hj j hj1 (by omega)
      · simp -implicitDefEqProofs -dsimp only [go_sem, wrap_succ (show k < 9223372036854775807 by omega)]
  · have h1 : ¬ ((k : Int) < (l.length : Int)) := by omega
    have e : ¬ x ∈ l := fun hx => by
      obtain ⟨j, hj1, e⟩ := List.getElem_of_mem hx
      exact hj j hj1 (by omega) e
    rw [decide_eq_false e]
    simp -implicitDefEqProofs -dsimp only [go_sem, h1]
theorem szI {n : Nat} (h : n ≤ 2000000) : (n + 1) * 28 ≤ maxLenD ∧ (n + 1 + 1) * 28 ≤ maxLenD := by unfold maxLenD; omega
set_option maxHeartbeats 2000000 in
theorem rput_lim (own : Bool) (l : List Id) (x : Id) (hl : l.length ≤ 1000000) (hr : Rises l) :
    lim Tryz.prog cfg 75 [.list own 3 (idr l), .agg [vi x.e, vi x.n, vi x.k]] h = some (.list (!decide (x ∈ l)) 3 (idr (putP l x)), h) := by
  have e1 := rhasD_lim (h := []) false l x (by omega)
  by_cases hx : x ∈ l
  · rw [decide_eq_true hx] at e1
    have ep : putP l x = l := by unfold putP; rw [if_pos hx]
    rw [ep, decide_eq_true hx]
    refine lim_funp fun75 rfl (by simp) (by simp [heapFree, heapFree.all, free_idr]) (by simp [heapFree, heapFree.all, free_idr]) ?_
    delta cd75
    simp -implicitDefEqProofs -dsimp only [go_sem, e1]
  rw [decide_eq_false hx] at e1
  rw [← setI_put hr hx, decide_eq_false hx]
  refine lim_funp fun75 rfl (by simp) (by simp [heapFree, heapFree.all, free_idr]) (by simp [heapFree, heapFree.all, free_idr]) ?_
  delta cd75
  simp -implicitDefEqProofs -dsimp only [go_sem, e1]
  refine wp_for (σ := Nat) (fun k => [(0, .list false 3 (idr l)), (3, .box [vi x.e, vi x.n, vi x.k]), (5, .list true 3 (idr ((l.take k).foldl (stepI x) ([], false)).1)), (6, vb ((l.take k).foldl (stepI x) ([], false)).2), (7, vi (k : Nat))]) (fun _ => []) (fun k => l.length - k) (fun k => k ≤ l.length) 0 (by simp) rfl rfl ?_
  rintro k hk N hN
  have sl : ((l.take k).foldl (stepI x) ([], false)).1.length ≤ 2000000 := by
    have := foldStep_len x (l.take k) ([], false)
    rw [List.length_take] at this
    simp only [List.length_nil] at this
    omega
  by_cases hlt : k < l.length
  · have h1 : ((k : Int) < (l.length : Int)) := by omega
    have ss := step_snoc x hlt
    have hne : l[k] ≠ x := fun e => hx (by rw [← e]; exact List.getElem_mem hlt)
    have e2 := rlessD_lim (h := []) x l[k]
    have N2 := hN (k + 1)
    rw [ss] at N2
    clear hN
    generalize (l.take k).foldl (stepI x) ([], false) = s at *
    obtain ⟨m, d⟩ := s
    dsimp only at sl
    obtain ⟨hm1, hm2⟩ := szI sl
    cases d with
    | true =>
      have es : stepI x (m, true) l[k] = (m ++ [l[k]], true) := by simp [stepI, hne]
      rw [es] at N2
      simp -implicitDefEqProofs -dsimp only [go_sem, wp_RD, h1, hlt, hm1]
      refine N2 _ (by omega) (by omega) ?_
      simp -implicitDefEqProofs -dsimp only [go_sem, wrap_succ (show k < 9223372036854775807 by omega)]
    | false =>
      cases c : lessI x l[k] with
      | true =>
        rw [c] at e2
        have es : stepI x (m, false) l[k] = (m ++ [x] ++ [l[k]], true) := by simp [stepI, hne, c]
        rw [es] at N2
        have hm3 : ((m ++ [({ e := x.e, n := x.n, k := x.k } : Id)]).length + 1) * 28 ≤ maxLenD := by rw [List.length_append]; exact hm2
        simp -implicitDefEqProofs -dsimp only [go_sem, wp_RD, h1, hlt, hm1, hm3, e2]
        refine N2 _ (by omega) (by omega) ?_
        simp -implicitDefEqProofs -dsimp only [go_sem, wrap_succ (show k < 9223372036854775807 by omega)]
      | false =>
        rw [c] at e2
        have es : stepI x (m, false) l[k] = (m ++ [l[k]], false) := by simp [stepI, hne, c]
        rw [es] at N2
        simp -implicitDefEqProofs -dsimp only [go_sem, wp_RD, h1, hlt, hm1, hm2, e2]
        refine N2 _ (by omega) (by omega) ?_
        simp -implicitDefEqProofs -dsimp only [go_sem, wrap_succ (show k < 9223372036854775807 by omega)]
  · have h1 : ¬ ((k : Int) < (l.length : Int)) := by omega
    rw [List.take_of_length_le (by omega)] at *
    unfold setI
    clear hN
    generalize l.foldl (stepI x) ([], false) = s at *
    obtain ⟨m, d⟩ := s
    dsimp only at sl
    obtain ⟨hm1, hm2⟩ := szI sl
    cases d with
    | true => simp -implicitDefEqProofs -dsimp only [go_sem, h1, if_true]
    | false => simp -implicitDefEqProofs -dsimp only [go_sem, h1, hm1, Bool.false_eq_true, if_false]
/-- Is the row that the reference cleans its own one? -/
def stepC (s : List Id × Bool) (x : Id) : List Id × Bool := (putP s.1 x, !decide (x ∈ s.1))
def ownC (l : List Id) : Bool := (l.foldl stepC ([], true)).2
theorem stepC_fst (l : List Id) (s : List Id × Bool) : (l.foldl stepC s).1 = l.foldl putP s.1 := by
  induction l generalizing s with
  | nil => rfl
  | cons x l ih => exact ih _
set_option maxHeartbeats 1000000 in
theorem rclean_lim (own : Bool) (l : List Id) (hl : l.length ≤ 1000000) : lim Tryz.prog cfg 53 [.list own 3 (idr l)] h = some (.list (ownC l) 3 (idr (cleanP l)), h) := by
  have ec : cleanP l = (l.foldl stepC ([], true)).1 := by rw [stepC_fst, ← rclean_eq]; rfl
  rw [ec]
  unfold ownC
  refine lim_funp fun53 rfl (by simp) (by simp [heapFree, heapFree.all, free_idr]) (by simp [heapFree, heapFree.all, free_idr]) ?_
  delta cd53
  simp -implicitDefEqProofs -dsimp only [go_sem]
  refine wp_for (σ := Nat) (fun k => [(0, .list false 3 (idr l)), (3, .list ((l.take k).foldl stepC ([], true)).2 3 (idr ((l.take k).foldl stepC ([], true)).1)), (4, vi (k : Nat))]) (fun _ => []) (fun k => l.length - k) (fun k => k ≤ l.length) 0 (by simp) rfl rfl ?_
  rintro k hk N hN
  by_cases hlt : k < l.length
  · have h1 : ((k : Int) < (l.length : Int)) := by omega
    have sl := rcleanT_len l k
    have sr := rclean_take l k
    rw [← stepC_fst (l.take k) ([], true)] at sl sr
    have es : (l.take (k + 1)).foldl stepC ([], true) = stepC ((l.take k).foldl stepC ([], true)) l[k] := by rw [List.take_succ_eq_append_getElem hlt, List.foldl_append]; rfl
    have N2 := hN (k + 1)
    rw [es] at N2
    clear hN es
    generalize (l.take k).foldl stepC ([], true) = s at *
    obtain ⟨m, o⟩ := s
    have e1 := rput_lim (h := []) false m l[k] (by dsimp only at sl; omega) sr
    simp only [stepC] at N2
    generalize (!decide (l[k] ∈ m)) = o2 at *
    cases o <;> cases o2
    all_goals
      simp -implicitDefEqProofs -dsimp only [go_sem, h1, hlt, e1]
      refine N2 _ (by omega) (by omega) ?_
      simp -implicitDefEqProofs -dsimp only [go_sem, wrap_succ (show k < 9223372036854775807 by omega)]
  · have h1 : ¬ ((k : Int) < (l.length : Int)) := by omega
    rw [List.take_of_length_le (by omega)]
    clear hN
    generalize l.foldl stepC ([], true) = s at *
    obtain ⟨m, o⟩ := s
    cases o <;> simp -implicitDefEqProofs -dsimp only [go_sem, h1]
theorem rright_lim (own : Bool) (l : List Id) (hl : l.length ≤ 1099511627776) : lim Tryz.prog cfg 61 [.list own 3 (idr l)] h = some (vb (rightI l), h) := by
  refine lim_funp fun61 rfl (by simp) (by simp [heapFree, free_idr]) rfl ?_
  delta cd61
  simp -implicitDefEqProofs -dsimp only [go_sem]
  refine wp_for (σ := Nat) (fun k => [(0, .list false 3 (idr l)), (3, vi ((k + 1 : Nat) : Int))]) (fun _ => []) (fun k => l.length - k) (fun k => k ≤ l.length - 1 ∧ ∀ i (h : i + 1 < l.length), i < k → lessI (l[i]'(by omega)) l[i + 1] = true) 0 (by simp) rfl rfl ?_
  rintro k ⟨hk, hb⟩ N hN
  by_cases hlt : k + 1 < l.length
  · have h1 : (((k + 1 : Nat) : Int) < (l.length : Int)) := by omega
    have i1 : k < l.length := by omega
    have e1 := rlessD_lim (h := []) l[k] l[k + 1]
    have w3 : IntKind.wrap .i64 (((k + 1 : Nat) : Int) - 1) = (k : Int) := by
      have : ((k + 1 : Nat) : Int) - 1 = (k : Int) := by omega
      rw [this]
      exact wrap64 (by omega) (by omega)
    cases hc : lessI l[k] l[k + 1] with
    | true =>
      rw [hc] at e1
      simp -implicitDefEqProofs -dsimp only [go_sem, wp_RD, h1, i1, hlt, w3, e1]
      refine hN (k + 1) _ (by omega) ⟨by omega, fun i hi hik => ?_⟩ ?_
      · by_cases e : i = k
        · subst e; exact hc
        · exact hb i hi (by omega)
      · simp -implicitDefEqProofs -dsimp only [go_sem, wrap_succ (show k + 1 < 9223372036854775807 by omega)]
    | false =>
      rw [hc] at e1
      have hr : rightI l = false := by
        rw [Bool.eq_false_iff]
        intro e
        rw [rightI_of] at e
        rw [e k hlt] at hc
        cases hc
      rw [hr]
      simp -implicitDefEqProofs -dsimp only [go_sem, wp_RD, h1, i1, hlt, w3, e1]
  · have h1 : ¬ (((k + 1 : Nat) : Int) < (l.length : Int)) := by omega
    have hr : rightI l = true := (rightI_of l).2 fun i hi => hb i hi (by omega)
    rw [hr]
    simp -implicitDefEqProofs -dsimp only [go_sem, h1]
theorem runion_lim (o1 o2 : Bool) (a b : List Id) (hl : a.length + b.length ≤ 1000000) : lim Tryz.prog cfg 70 [.list o1 3 (idr a), .list o2 3 (idr b)] h = some (.list (ownC (a ++ b)) 3 (idr (cleanP (a ++ b))), h) := by
  refine lim_funp fun70 rfl (by simp) (by simp [heapFree, heapFree.all, free_idr]) (by simp [heapFree, heapFree.all, free_idr]) ?_
  delta cd70
  have e1 := fun o => rclean_lim (h := []) o (a ++ b) (by rw [List.length_append]; omega)
  have s1 : a.length * 28 ≤ maxLenD := by unfold maxLenD; omega
  have s2 : (a.length + b.length) * 28 ≤ maxLenD := by unfold maxLenD; omega
  cases ho : ownC (a ++ b) <;> simp only [ho] at e1 <;> simp -implicitDefEqProofs -dsimp only [go_sem, e1, s1, s2]
theorem rmerge_lim (a b : Att) (hl : a.deps.length + b.deps.length ≤ 1000000) : lim Tryz.prog cfg 48 [attD a, attD b] h = some (attD (mergeP a b), h) := by
  refine lim_funp fun48 rfl (by simp) (by simp [heapFree, heapFree.all, free_idr]) (by simp [heapFree, heapFree.all, free_idr]) ?_
  delta cd48
  have e1 := runion_lim (h := []) false false a.deps b.deps hl
  cases ho : ownC (a.deps ++ b.deps) <;> rw [ho] at e1 <;> simp -implicitDefEqProofs -dsimp only [go_sem, wp_RD, e1, mmI_max] <;> rfl
theorem idr_at {l : List Id} {k : Nat} (hk : k < l.length) (N : List DV → Prop) : IdxP (idr l) (Nf (k : Int)) N = N [vi l[k].e, vi l[k].n, vi l[k].k] := by
  show IdxP (idr l) (k : Int) N = _
  rw [idxP_idr]
  simp [IdxP, hk]
theorem knr_at {l : List Kno} {k : Nat} (hk : k < l.length) (N : List DV → Prop) : IdxP (kns l) (Nf (k : Int)) N = N [vi l[k].id.e, vi l[k].id.n, vi l[k].id.k, vi l[k].cmd.client, vi l[k].cmd.seq, vi l[k].cmd.op, vs l[k].cmd.path, vs l[k].cmd.value, vi l[k].cmd.version, vi l[k].cmd.a, vi l[k].cmd.b, vi l[k].att.seq, .list false 3 (idr l[k].att.deps)] := by
  show IdxP (kns l) (k : Int) N = _
  rw [idxP_kns]
  simp [IdxP, hk]
set_option maxHeartbeats 2000000 in
theorem rvalidA_lim (id : Id) (a : Att) (hl : a.deps.length ≤ 1099511627776) : lim Tryz.prog cfg 37 [.agg [vi id.e, vi id.n, vi id.k], attD a] h = some (vb (validA id a), h) := by
  refine lim_funp fun37 rfl (by simp) (by simp [heapFree, heapFree.all, free_idr]) rfl ?_
  delta cd37
  rw [validA_eq]
  obtain ⟨seq, deps⟩ := a
  dsimp only at hl ⊢
  simp -implicitDefEqProofs -dsimp only [go_sem]
  refine wp_for (σ := Nat) (fun k => [(2, .box [vi id.e, vi id.n, vi id.k]), (3, .box [vi seq, .list false 3 (idr deps)]), (5, vi (k : Nat))]) (fun _ => []) (fun k => deps.length - k) (fun k => k ≤ deps.length ∧ ∀ j (hj : j < deps.length), j < k → depOK id deps[j] = true) 0 (by simp) rfl rfl ?_
  rintro k ⟨hk, hj⟩ N hN
  by_cases hlt : k < deps.length
  · have h1 : ((k : Int) < (deps.length : Int)) := by omega
    have e1 := rvalidD_lim (h := []) deps[k]
    have q := fun N => idr_at hlt N
    have no : depOK id deps[k] = false → deps.all (depOK id) = false := fun hd => by
      rw [Bool.eq_false_iff]
      intro q
      rw [List.all_eq_true] at q
      rw [q _ (List.getElem_mem hlt)] at hd
      cases hd
    cases c3 : validI deps[k] with
    | false =>
      rw [c3] at e1
      have hd : depOK id deps[k] = false := by simp [depOK, c3]
      simp -implicitDefEqProofs -dsimp only [go_sem, ↓q, wp_RD, postC_path2, Nat.reduceDiv, h1, e1, no hd]
      rfl
    | true =>
    rw [c3] at e1
    by_cases c1 : deps[k] = id
    · have hd : depOK id deps[k] = false := by simp [depOK, c1]
      simp -implicitDefEqProofs -dsimp only [go_sem, ↓q, wp_RD, postC_path2, Nat.reduceDiv, h1, e1, eq_true c1, no hd]
      rfl
    by_cases c2 : deps[k].e = id.e
    · have hd : depOK id deps[k] = true := by simp [depOK, c1, c2, c3]
      simp -implicitDefEqProofs -dsimp only [go_sem, ↓q, wp_RD, postC_path2, Nat.reduceDiv, h1, eq_false c1, eq_true c2, e1]
      refine hN (k + 1) _ (by omega) ⟨by omega, fun j hj1 hj2 => ?_⟩ ?_
      · by_cases e : j = k
        · subst e; exact hd
        · exact hj j hj1 (by omega)
      · simp -implicitDefEqProofs -dsimp only [go_sem, wrap_succ (show k < 9223372036854775807 by omega)]
    · have hd : depOK id deps[k] = false := by simp [depOK, c2]
      simp -implicitDefEqProofs -dsimp only [go_sem, ↓q, wp_RD, postC_path2, Nat.reduceDiv, h1, e1, eq_false c1, eq_false c2, no hd]
      rfl
  · have h1 : ¬ ((k : Int) < (deps.length : Int)) := by omega
    have hall : deps.all (depOK id) = true := by
      rw [List.all_eq_true]
      intro x hx
      obtain ⟨j, hj1, rfl⟩ := List.getElem_of_mem hx
      exact hj j hj1 (by omega)
    have e2 := rright_lim (h := []) false deps hl
    rw [hall]
    by_cases c1 : 0 ≤ seq
    · by_cases c2 : seq ≤ 1099511627776
      · by_cases c3 : deps.length ≤ 1024
        · have c3' : (deps.length : Int) ≤ 1024 := by omega
          cases c4 : rightI deps <;> rw [c4] at e2 <;> simp -implicitDefEqProofs -dsimp only [go_sem, h1, c1, c2, c3, c3', e2] <;> simp [c1, c2, c3]
        · have c3' : ¬ (deps.length : Int) ≤ 1024 := by omega
          simp -implicitDefEqProofs -dsimp only [go_sem, h1, c1, c2, c3, c3', e2] <;> simp [c1, c2, c3]
      · simp -implicitDefEqProofs -dsimp only [go_sem, h1, c1, c2, e2] <;> simp [c1, c2]
    · simp -implicitDefEqProofs -dsimp only [go_sem, h1, c1, e2] <;> simp [c1]
/-- What the reference found so far. -/
def localN (l : List Kno) (id : Id) (c : Cmd) (k : Nat) : List Id × Int := (((l.take k).filter (matters id c)).map (·.id), ((l.take k).filter (matters id c)).foldl (fun n x => max n x.att.seq) 0)
theorem localN_succ (l : List Kno) (id : Id) (c : Cmd) (k : Nat) (hk : k < l.length) : localN l id c (k + 1) = if matters id c l[k] then ((localN l id c k).1 ++ [l[k].id], max (localN l id c k).2 l[k].att.seq) else localN l id c k := by
  unfold localN
  rw [List.take_succ_eq_append_getElem hk, List.filter_append]
  cases hm : matters id c l[k] <;> simp [hm]
theorem localN_len (l : List Kno) (id : Id) (c : Cmd) (k : Nat) : (localN l id c k).1.length ≤ k := by
  unfold localN
  rw [List.length_map]
  exact Nat.le_trans (List.length_filter_le ..) (by rw [List.length_take]; omega)
set_option maxHeartbeats 4000000 in
theorem rlocal_lim (own : Bool) (l : List Kno) (id : Id) (c : Cmd) (hl : l.length ≤ 1000000) (hs : ∀ x ∈ l, x.cmd.path.length ≤ 1048575 ∧ x.att.seq ≤ 4611686018427387904) (hc : c.path.length ≤ 1048575) :
    lim Tryz.prog cfg 47 [.list own 13 (kns l), .agg [vi id.e, vi id.n, vi id.k], cmdD c] h = some (attD (localP l id c), h) := by
  refine lim_funp fun47 rfl (by simp) (by simp [heapFree, heapFree.all, free_kns]) (by simp [heapFree, heapFree.all, free_idr]) ?_
  delta cd47
  simp -implicitDefEqProofs -dsimp only [go_sem]
  refine wp_for (σ := Nat) (fun k => [(0, .list false 13 (kns l)), (4, .box [vi id.e, vi id.n, vi id.k]), (5, .box (cmdL c)), (6, .box [vi 0, .list false 3 []]), (7, .list true 3 (idr (localN l id c k).1)), (8, vi (localN l id c k).2), (9, vi (k : Nat))]) (fun _ => []) (fun k => l.length - k) (fun k => k ≤ l.length) 0 (by simp) rfl rfl ?_
  rintro k hk N hN
  have sl := localN_len l id c k
  have sm : ((localN l id c k).1.length + 1) * 28 ≤ maxLenD := by unfold maxLenD; omega
  by_cases hlt : k < l.length
  · have h1 : ((k : Int) < (l.length : Int)) := by omega
    obtain ⟨p1, p2⟩ := hs _ (List.getElem_mem hlt)
    have q' := fun N => knr_at hlt N
    have e1 := rboth_lim (h := []) l[k].cmd c p1 hc
    have es := localN_succ l id c k hlt
    have N2 := hN (k + 1)
    rw [es] at N2
    clear hN es sl
    generalize localN l id c k = s at *
    obtain ⟨m, q⟩ := s
    have hm : matters id c l[k] = (decide (l[k].id ≠ id) && decide (l[k].id.e = id.e) && bothB l[k].cmd c) := rfl
    have finish : matters id c l[k] = false → ∀ a', keepA (some [0, 4, 5, 6, 7, 8, 9]) a' = [(0, .list false 13 (kns l)), (4, .box [vi id.e, vi id.n, vi id.k]), (5, .box (cmdL c)), (6, .box [vi 0, .list false 3 []]), (7, .list true 3 (idr m)), (8, vi q), (9, vi ((k + 1 : Nat) : Int))] → N a' [] := fun hf a' ha => by
      rw [hf] at N2
      exact N2 a' (by omega) (by omega) ha
    cases c3 : bothB l[k].cmd c with
    | false =>
      rw [c3] at e1 hm
      have hf : matters id c l[k] = false := by rw [hm]; simp
      by_cases c1 : l[k].id = id
      · simp -implicitDefEqProofs -dsimp only [go_sem, ↓q', wp_RD, h1, e1, eq_true c1]
        exact finish hf _ (by simp -implicitDefEqProofs -dsimp only [go_sem, wrap_succ (show k < 9223372036854775807 by omega)])
      by_cases c2 : l[k].id.e = id.e
      · simp -implicitDefEqProofs -dsimp only [go_sem, ↓q', wp_RD, h1, e1, eq_false c1, eq_true c2]
        exact finish hf _ (by simp -implicitDefEqProofs -dsimp only [go_sem, wrap_succ (show k < 9223372036854775807 by omega)])
      · simp -implicitDefEqProofs -dsimp only [go_sem, ↓q', wp_RD, h1, e1, eq_false c1, eq_false c2]
        exact finish hf _ (by simp -implicitDefEqProofs -dsimp only [go_sem, wrap_succ (show k < 9223372036854775807 by omega)])
    | true =>
      rw [c3] at e1 hm
      by_cases c1 : l[k].id = id
      · have hf : matters id c l[k] = false := by rw [hm]; simp [c1]
        simp -implicitDefEqProofs -dsimp only [go_sem, ↓q', wp_RD, h1, e1, eq_true c1]
        exact finish hf _ (by simp -implicitDefEqProofs -dsimp only [go_sem, wrap_succ (show k < 9223372036854775807 by omega)])
      by_cases c2 : l[k].id.e = id.e
      · have hf : matters id c l[k] = true := by rw [hm]; simp [c1, c2]
        rw [hf] at N2
        simp only [if_true] at N2
        simp -implicitDefEqProofs -dsimp only [go_sem, ↓q', wp_RD, h1, e1, eq_false c1, eq_true c2, sm, mmI_max]
        refine N2 _ (by omega) (by omega) ?_
        simp -implicitDefEqProofs -dsimp only [go_sem, wrap_succ (show k < 9223372036854775807 by omega)]
      · have hf : matters id c l[k] = false := by rw [hm]; simp [c2]
        simp -implicitDefEqProofs -dsimp only [go_sem, ↓q', wp_RD, h1, e1, eq_false c1, eq_false c2]
        exact finish hf _ (by simp -implicitDefEqProofs -dsimp only [go_sem, wrap_succ (show k < 9223372036854775807 by omega)])
  · have h1 : ¬ ((k : Int) < (l.length : Int)) := by omega
    have el : localP l id c = ⟨(localN l id c k).2 + 1, cleanP (localN l id c k).1⟩ := by unfold localP localN; rw [List.take_of_length_le (by omega)]
    have g1 := (foldl_max_ge ((l.take k).filter (matters id c)) 0).1
    have g2 := foldl_max_le ((l.take k).filter (matters id c)) 0 4611686018427387904 (by omega) fun x hx => (hs x (List.mem_of_mem_take (List.mem_filter.1 hx).1)).2
    have e2 := fun o => rclean_lim (h := []) o (localN l id c k).1 (by omega)
    rw [el]
    have w : IntKind.wrap .i64 ((localN l id c k).2 + 1) = (localN l id c k).2 + 1 := wrap64 (by unfold localN; dsimp only; omega) (by unfold localN; dsimp only; omega)
    clear hN el sm sl
    generalize localN l id c k = s at *
    obtain ⟨m, q⟩ := s
    dsimp only at e2 w
    cases ho : ownC m <;> simp only [ho] at e2 <;> simp -implicitDefEqProofs -dsimp only [go_sem, h1, e2, w]
end Go.DS

/-
  Walks: the reference's book.
-/
namespace Go.DS
open Go Go.Proofs
set_option maxRecDepth 100000
set_option linter.unusedVariables false
set_option linter.unusedSimpArgs false
def cd60 : Cd := .seq (R [cb 4 (.tk (.c (kb false)))] [0, 1]) (.seq (.seq (R [c0 5 (.tk (.c (ki .i64 0)))] [0, 1, 5]) (.block 0 (LP [0, 1, 5] (.seq (.seq (R [c0 6 (.mv (.s 5)), c0 7 (.mv (.s 0)), c0 8 (.len 1 (.s 7)), cb 9 (.bin .lss .any (.s 6) (.s 8))] [0, 1, 5, 9]) (.ite (.s 9) (.skip) (.exit 0))) (.seq (.block 1 (.seq (R [c0 12 (.mv (.s 0)), c0 13 (.mv (.s 5)), c0 14 (.ixp 1 (.s 12) (.s 13)), c0 15 (.ld false 1 (.s 14)), c0 16 (.mv (.s 1)), cb 17 (.bin .eql .any (.s 15) (.s 16))] [0, 1, 5, 17]) (.ite (.s 17) (.seq (R [cb 4 (.tk (.c (kb true)))] [4]) (.ret)) (.skip)))) (R [c0 10 (.mv (.s 5)), c0 11 (.bin .add .any (.s 10) (.c (ki .i64 1))), c0 5 (.tk (.s 11))] [0, 1, 5])))))) (.seq (R [cb 4 (.tk (.c (kb false)))] [4]) (.ret)))
theorem fun60 : Fun Tryz.prog cfg 60 18 cd60 [.s 4] := ⟨rfl, Tryz.f60, _, Tryz.func60, rfl, rfl, by kernel_rfl, by kernel_rfl⟩
@[go_sem] theorem ok60 : calleeOK Tryz.prog 60 = true := by kernel_rfl
@[go_sem] theorem ex60 : (cfg.ext 60).isSome = false := rfl
def cd46 : Cd := .seq (R [c0 2 (.new false (.s 0)), c0 3 (.new false (.s 1)), cb 4 (.tk (.c (kb false)))] [2, 3]) (.seq (R [c0 5 (.mov 0 (.s 2)), c0 6 (.ld false 1 (.s 5)), c0 7 (.mov 0 (.s 3)), c0 8 (.ld false 1 (.s 7)), cb 9 (.bin .lss .any (.s 6) (.s 8)), cb 10 (.mv (.s 9)), cg 11 10 false (.mov 0 (.s 2)), cg 12 10 false (.ld false 1 (.s 11)), cg 13 10 false (.mov 0 (.s 3)), cg 14 10 false (.ld false 1 (.s 13)), ch 15 10 false (.bin .eql .any (.s 12) (.s 14)), ch 16 10 false (.mv (.s 15)), cg 17 16 true (.mov 1 (.s 2)), cg 18 16 true (.ld false 1 (.s 17)), cg 19 16 true (.mov 1 (.s 3)), cg 20 16 true (.ld false 1 (.s 19)), ch 21 16 true (.bin .lss .any (.s 18) (.s 20)), ch 22 10 false (.pick (.s 16) (.s 21) (.c (kb false))), cb 23 (.pick (.s 10) (.c (kb true)) (.s 22)), cb 4 (.tk (.s 23))] [2, 3, 4]) (.ret))
theorem fun46 : Fun Tryz.prog cfg 46 24 cd46 [.s 4] := ⟨rfl, Tryz.f46, _, Tryz.func46, rfl, rfl, by kernel_rfl, by kernel_rfl⟩
@[go_sem] theorem ok46 : calleeOK Tryz.prog 46 = true := by kernel_rfl
@[go_sem] theorem ex46 : (cfg.ext 46).isSome = false := rfl
def cd36 : Cd := .seq (R [c0 1 (.new false (.s 0)), cb 2 (.tk (.c (kb false)))] [1]) (.seq (R [c0 3 (.mov 0 (.s 1)), c0 4 (.ld false 1 (.s 3)), cb 5 (.bin .geq .any (.s 4) (.c (ki .i64 0))), cb 6 (.mv (.s 5)), cg 7 6 true (.mov 0 (.s 1)), cg 8 6 true (.ld false 1 (.s 7)), ch 9 6 true (.bin .leq .any (.s 8) (.c (ki .i64 1099511627776))), cb 10 (.pick (.s 6) (.s 9) (.c (kb false))), cb 11 (.mv (.s 10)), cg 12 11 true (.mov 1 (.s 1)), cg 13 11 true (.ld false 1 (.s 12)), ch 14 11 true (.bin .geq .any (.s 13) (.c (ki .i64 0))), cb 15 (.pick (.s 11) (.s 14) (.c (kb false))), cb 16 (.mv (.s 15)), cg 17 16 true (.mov 1 (.s 1)), cg 18 16 true (.ld false 1 (.s 17)), ch 19 16 true (.bin .leq .any (.s 18) (.c (ki .i64 31))), cb 20 (.pick (.s 16) (.s 19) (.c (kb false))), cb 2 (.tk (.s 20))] [1, 2]) (.ret))
theorem fun36 : Fun Tryz.prog cfg 36 21 cd36 [.s 2] := ⟨rfl, Tryz.f36, _, Tryz.func36, rfl, rfl, by kernel_rfl, by kernel_rfl⟩
@[go_sem] theorem ok36 : calleeOK Tryz.prog 36 = true := by kernel_rfl
@[go_sem] theorem ex36 : (cfg.ext 36).isSome = false := rfl
def cd34 : Cd := .seq (R [c0 2 (.new false (.s 0)), cb 4 (.tk (.c (kb false)))] [1, 2]) (.seq (R [c0 5 (.mov 1 (.s 2)), c0 6 (.ld false 3 (.s 5)), c0 7 (.mv (.s 1)), cb 8 (.call none (.c (kf 60)) [(.s 6), (.s 7)]), cb 4 (.tk (.s 8))] [2, 4]) (.ret))
theorem fun34 : Fun Tryz.prog cfg 34 9 cd34 [.s 4] := ⟨rfl, Tryz.f34, _, Tryz.func34, rfl, rfl, by kernel_rfl, by kernel_rfl⟩
@[go_sem] theorem ok34 : calleeOK Tryz.prog 34 = true := by kernel_rfl
@[go_sem] theorem ex34 : (cfg.ext 34).isSome = false := rfl
def cd25 : Cd := .seq (R [c0 2 (.new false (.s 0)), c0 3 (.new false (.s 1)), cb 4 (.mv (.c (kb false)))] [2, 3]) (.seq (RD [cd (some 5) false none (.mov 0 (.s 2)) false false [2], cd (some 6) false none (.ld false 1 (.s 5)) false false [5], cd (some 7) false none (.mov 0 (.s 3)) false false [3], cd (some 8) false none (.ld false 1 (.s 7)) false false [7], cd (some 9) true none (.bin .eql .any (.s 6) (.s 8)) false false [6, 8], cd (some 10) true none (.mv (.s 9)) false false [9], cd (some 11) false (some (10, true)) (.mov 1 (.s 2)) false false [2], cd (some 12) false (some (10, true)) (.ld false 5 (.s 11)) false false [11], cd (some 13) false (some (10, true)) (.call none (.c (kf 53)) [(.s 12)]) false false [12], cd (some 14) false (some (10, true)) (.mov 1 (.s 3)) false false [3], cd (some 15) false (some (10, true)) (.ld false 5 (.s 14)) false false [14], cd (some 16) false (some (10, true)) (.call none (.c (kf 53)) [(.s 15)]) false false [15], cd (some 17) true (some (10, true)) (.call none (.c (kf 28)) [(.s 13), (.s 16)]) false false [13, 16], cd (some 18) true none (.pick (.s 10) (.s 17) (.c (kb false))) false false [10, 17], cd (some 4) true none (.mv (.s 18)) false false [18]] [2, 3, 4] []) (.ret))
theorem fun25 : Fun Tryz.prog cfg 25 19 cd25 [.s 4] := ⟨rfl, Tryz.f25, _, Tryz.func25, rfl, rfl, by kernel_rfl, by kernel_rfl⟩
@[go_sem] theorem ok25 : calleeOK Tryz.prog 25 = true := by kernel_rfl
@[go_sem] theorem ex25 : (cfg.ext 25).isSome = false := rfl
def cd21 : Cd := .seq (R [c0 3 (.new false (.s 1)), c0 4 (.new false (.c (.agg [ki .i64 0, ki .i64 0, ki .i64 0, ki .i64 0, ki .i64 0, ki .i64 0, ki .i64 0, ki .i64 0, ks [], ks [], ki .i64 0, ki .i64 0, ki .i64 0, ki .i64 0, kn 3])))] [0, 3, 4]) (.seq (.seq (R [c0 5 (.tk (.c (ki .i64 0)))] [0, 3, 4, 5]) (.block 0 (LP [0, 3, 4, 5] (.seq (.seq (R [c0 6 (.mv (.s 5)), c0 7 (.mv (.s 0)), c0 8 (.mov 0 (.s 7)), c0 9 (.mov 3 (.s 8)), c0 10 (.ld false 20 (.s 9)), c0 11 (.len 1 (.s 10)), cb 12 (.bin .lss .any (.s 6) (.s 11))] [0, 3, 4, 5, 12]) (.ite (.s 12) (.skip) (.exit 0))) (.seq (.block 1 (.seq (RD [cd (some 15) false none (.mv (.s 0)) false false [0], cd (some 16) false none (.mov 0 (.s 15)) false false [15], cd (some 17) false none (.mov 3 (.s 16)) false false [16], cd (some 18) false none (.ld false 20 (.s 17)) false false [17], cd (some 19) false none (.mv (.s 5)) false false [5], cd (some 20) false none (.ixp 18 (.s 18) (.s 19)) false false [18, 19], cd (some 21) false none (.mov 0 (.s 20)) false false [20], cd (some 22) false none (.ld true 3 (.s 21)) false false [21], cd (some 23) false none (.ld true 3 (.s 3)) false false [3], cd (some 24) true none (.bin .eql (.flat [0, 0, 0]) (.s 22) (.s 23)) false false [22, 23]] [0, 3, 4, 5, 24] []) (.ite (.s 24) (.seq (R [c0 25 (.mv (.s 0)), c0 26 (.mov 0 (.s 25)), c0 27 (.mov 3 (.s 26)), c0 28 (.ld false 20 (.s 27)), c0 29 (.mv (.s 5)), c0 30 (.ixp 18 (.s 28) (.s 29)), c0 31 (.mov 3 (.s 30)), c0 32 (.ld true 15 (.s 31)), cn (.st 15 (.s 4) (.s 32))] [3, 4]) (.ret)) (.skip)))) (R [c0 13 (.mv (.s 5)), c0 14 (.bin .add .any (.s 13) (.c (ki .i64 1))), c0 5 (.tk (.s 14))] [0, 3, 4, 5])))))) (.seq (R [c0 33 (.bld [ki .i64 0, ki .i64 0, ki .i64 0, ki .i64 0, ki .i64 0, ki .i64 0, ki .i64 0, ki .i64 0, ks [], ks [], ki .i64 0, ki .i64 0, ki .i64 0, ki .i64 0, kz 3] []), cn (.st 15 (.s 4) (.s 33))] [3, 4]) (.ret)))
theorem fun21 : Fun Tryz.prog cfg 21 34 cd21 [.b 4 true 15] := ⟨rfl, Tryz.f21, _, Tryz.func21, rfl, rfl, by kernel_rfl, by kernel_rfl⟩
@[go_sem] theorem ok21 : calleeOK Tryz.prog 21 = true := by kernel_rfl
@[go_sem] theorem ex21 : (cfg.ext 21).isSome = false := rfl
def cd45 : Cd := .seq (R [c0 4 (.new false (.s 1)), c0 5 (.new false (.s 2))] [0, 4, 5]) (.seq (R [c0 6 (.tk (.c (kn 18)))] [0, 4, 5, 6]) (.seq (R [cb 7 (.tk (.c (kb false)))] [0, 4, 5, 6, 7]) (.seq (.seq (R [c0 8 (.tk (.c (ki .i64 0)))] [0, 4, 5, 6, 7, 8]) (.block 0 (LP [0, 4, 5, 6, 7, 8] (.seq (.seq (R [c0 9 (.mv (.s 8)), c0 10 (.mv (.s 0)), c0 11 (.mov 0 (.s 10)), c0 12 (.mov 3 (.s 11)), c0 13 (.ld false 20 (.s 12)), c0 14 (.len 1 (.s 13)), cb 15 (.bin .lss .any (.s 9) (.s 14))] [0, 4, 5, 6, 7, 8, 15]) (.ite (.s 15) (.skip) (.exit 0))) (.seq (.block 1 (.seq (.seq (RD [cd (some 18) true none (.mv (.s 7)) false false [7], cd (some 19) true none (.un .not (.s 18)) false false [18], cd (some 20) true none (.mv (.s 19)) false false [19], cd (some 21) false (some (20, true)) (.ld true 3 (.s 4)) false false [4], cd (some 22) false (some (20, true)) (.mv (.s 0)) false false [0], cd (some 23) false (some (20, true)) (.mov 0 (.s 22)) false false [22], cd (some 24) false (some (20, true)) (.mov 3 (.s 23)) false false [23], cd (some 25) false (some (20, true)) (.ld false 20 (.s 24)) false false [24], cd (some 26) false (some (20, true)) (.mv (.s 8)) false false [8], cd (some 27) false (some (20, true)) (.ixp 18 (.s 25) (.s 26)) false false [25, 26], cd (some 28) false (some (20, true)) (.mov 0 (.s 27)) false false [27], cd (some 29) false (some (20, true)) (.ld true 3 (.s 28)) false false [28], cd (some 30) true (some (20, true)) (.call none (.c (kf 68)) [(.s 21), (.s 29)]) false false [21, 29], cd (some 31) true none (.pick (.s 20) (.s 30) (.c (kb false))) false false [20, 30]] [0, 4, 5, 6, 7, 8, 31] []) (.ite (.s 31) (.seq (R [c0 32 (.tk (.s 6)), c0 33 (.ld true 3 (.s 4)), c0 34 (.ld true 15 (.s 5)), c0 35 (.bld [ki .i64 0, ki .i64 0, ki .i64 0, ki .i64 0, ki .i64 0, ki .i64 0, ki .i64 0, ki .i64 0, ki .i64 0, ki .i64 0, ki .i64 0, ks [], ks [], ki .i64 0, ki .i64 0, ki .i64 0, ki .i64 0, kz 3] [(0, 3, (.s 33)), (3, 15, (.s 34))]), c0 36 (.bsl 18 [(.s 35)]), c0 37 (.app 18 195 false (.s 32) (.s 36)), c0 6 (.tk (.s 37))] [0, 4, 5, 6, 8]) (R [cb 7 (.tk (.c (kb true)))] [0, 4, 5, 6, 7, 8])) (.skip))) (.seq (RD [cd (some 38) false none (.mv (.s 0)) false false [0], cd (some 39) false none (.mov 0 (.s 38)) false false [38], cd (some 40) false none (.mov 3 (.s 39)) false false [39], cd (some 41) false none (.ld false 20 (.s 40)) false false [40], cd (some 42) false none (.mv (.s 8)) false false [8], cd (some 43) false none (.ixp 18 (.s 41) (.s 42)) false false [41, 42], cd (some 44) false none (.mov 0 (.s 43)) false false [43], cd (some 45) false none (.ld true 3 (.s 44)) false false [44], cd (some 46) false none (.ld true 3 (.s 4)) false false [4], cd (some 47) true none (.bin .neq (.flat [0, 0, 0]) (.s 45) (.s 46)) false false [45, 46]] [0, 4, 5, 6, 7, 8, 47] []) (.ite (.s 47) (R [c0 48 (.tk (.s 6)), c0 49 (.mv (.s 0)), c0 50 (.mov 0 (.s 49)), c0 51 (.mov 3 (.s 50)), c0 52 (.ld false 20 (.s 51)), c0 53 (.mv (.s 8)), c0 54 (.ixp 18 (.s 52) (.s 53)), c0 55 (.ld true 18 (.s 54)), c0 56 (.bsl 18 [(.s 55)]), c0 57 (.app 18 195 false (.s 48) (.s 56)), c0 6 (.tk (.s 57))] [0, 4, 5, 6, 7, 8]) (.skip))))) (R [c0 16 (.mv (.s 8)), c0 17 (.bin .add .any (.s 16) (.c (ki .i64 1))), c0 8 (.tk (.s 17))] [0, 4, 5, 6, 7, 8])))))) (.seq (.seq (R [cb 58 (.mv (.s 7)), cb 59 (.un .not (.s 58))] [0, 4, 5, 6, 59]) (.ite (.s 59) (R [c0 60 (.tk (.s 6)), c0 61 (.ld true 3 (.s 4)), c0 62 (.ld true 15 (.s 5)), c0 63 (.bld [ki .i64 0, ki .i64 0, ki .i64 0, ki .i64 0, ki .i64 0, ki .i64 0, ki .i64 0, ki .i64 0, ki .i64 0, ki .i64 0, ki .i64 0, ks [], ks [], ki .i64 0, ki .i64 0, ki .i64 0, ki .i64 0, kz 3] [(0, 3, (.s 61)), (3, 15, (.s 62))]), c0 64 (.bsl 18 [(.s 63)]), c0 65 (.app 18 195 false (.s 60) (.s 64)), c0 6 (.tk (.s 65))] [0, 4, 5, 6]) (.skip))) (R [c0 66 (.mv (.s 0)), c0 67 (.tk (.s 6)), c0 68 (.mov 0 (.s 66)), c0 69 (.mov 3 (.s 68)), cn (.st 1 (.s 69) (.s 67))] [4, 5])))))
theorem fun45 : Fun Tryz.prog cfg 45 70 cd45 [] := ⟨rfl, Tryz.f45, _, Tryz.func45, rfl, rfl, by kernel_rfl, by kernel_rfl⟩
@[go_sem] theorem ok45 : calleeOK Tryz.prog 45 = true := by kernel_rfl
@[go_sem] theorem ex45 : (cfg.ext 45).isSome = false := rfl
def cd24 : Cd := .seq (R [c0 2 (.tk (.c (kn 13)))] [0]) (.seq (R [c0 3 (.tk (.c (kn 13)))] [0, 3]) (.seq (.seq (R [c0 4 (.tk (.c (ki .i64 0)))] [0, 3, 4]) (.block 0 (LP [0, 3, 4] (.seq (.seq (R [c0 5 (.mv (.s 4)), c0 6 (.mv (.s 0)), c0 7 (.mov 0 (.s 6)), c0 8 (.mov 3 (.s 7)), c0 9 (.ld false 20 (.s 8)), c0 10 (.len 1 (.s 9)), cb 11 (.bin .lss .any (.s 5) (.s 10))] [0, 3, 4, 11]) (.ite (.s 11) (.skip) (.exit 0))) (.seq (.block 1 (.seq (R [c0 14 (.mv (.s 0)), c0 15 (.mov 0 (.s 14)), c0 16 (.mov 3 (.s 15)), c0 17 (.ld false 20 (.s 16)), c0 18 (.mv (.s 4)), c0 19 (.ixp 18 (.s 17) (.s 18)), c0 20 (.mov 3 (.s 19)), c0 21 (.mov 0 (.s 20)), c0 22 (.ld false 1 (.s 21)), cb 23 (.bin .geq .any (.s 22) (.c (ki .i64 1)))] [0, 3, 4, 23]) (.ite (.s 23) (RD (cd (some 24) false none (.tk (.s 3)) false false [3] :: cd (some 25) false none (.mv (.s 0)) false false [0] :: cd (some 26) false none (.mov 0 (.s 25)) false false [25] :: cd (some 27) false none (.mov 3 (.s 26)) false false [26] :: cd (some 28) false none (.ld false 20 (.s 27)) false false [27] :: cd (some 29) false none (.mv (.s 4)) false false [4] :: cd (some 30) false none (.ixp 18 (.s 28) (.s 29)) false false [28, 29] :: cd (some 31) false none (.mov 0 (.s 30)) false false [30] :: cd (some 32) false none (.ld true 3 (.s 31)) false false [31] :: cd (some 33) false none (.mv (.s 0)) false false [0] :: cd (some 34) false none (.mov 0 (.s 33)) false false [33] :: cd (some 35) false none (.mov 3 (.s 34)) false false [34] :: cd (some 36) false none (.ld false 20 (.s 35)) false false [35] :: cd (some 37) false none (.mv (.s 4)) false false [4] :: cd (some 38) false none (.ixp 18 (.s 36) (.s 37)) false false [36, 37] :: cd (some 39) false none (.mov 3 (.s 38)) false false [38] :: cd (some 40) false none (.mov 5 (.s 39)) false false [39] :: cd (some 41) false none (.ld true 8 (.s 40)) false false [40] :: cd (some 42) false none (.mv (.s 0)) false false [0] :: cd (some 43) false none (.mov 0 (.s 42)) false false [42] :: cd (some 44) false none (.mov 3 (.s 43)) false false [43] :: cd (some 45) false none (.ld false 20 (.s 44)) false false [44] :: cd (some 46) false none (.mv (.s 4)) false false [4] :: cd (some 47) false none (.ixp 18 (.s 45) (.s 46)) false false [45, 46] :: cd (some 48) false none (.mov 3 (.s 47)) false false [47] :: cd (some 49) false none (.mov 13 (.s 48)) false false [48] :: cd (some 50) false none (.ld true 2 (.s 49)) false false [49] :: cd (some 51) false none (.bld [ki .i64 0, ki .i64 0, ki .i64 0, ki .i64 0, ki .i64 0, ki .i64 0, ks [], ks [], ki .i64 0, ki .i64 0, ki .i64 0, ki .i64 0, kz 3] [(0, 3, (.s 32)), (3, 8, (.s 41)), (11, 2, (.s 50))]) false false [32, 41, 50] :: cd (some 52) false none (.bsl 13 [(.s 51)]) false false [51] :: cd (some 53) false none (.app 13 150 false (.s 24) (.s 52)) false false [24, 52] :: cd (some 3) false none (.tk (.s 53)) false false [53] :: []) [0, 3, 4] []) (.skip)))) (R [c0 12 (.mv (.s 4)), c0 13 (.bin .add .any (.s 12) (.c (ki .i64 1))), c0 4 (.tk (.s 13))] [0, 3, 4])))))) (.seq (R [c0 54 (.tk (.s 3)), c0 2 (.tk (.s 54))] [2]) (.ret))))
theorem fun24 : Fun Tryz.prog cfg 24 55 cd24 [.s 2] := ⟨rfl, Tryz.f24, _, Tryz.func24, rfl, rfl, by kernel_rfl, by kernel_rfl⟩
@[go_sem] theorem ok24 : calleeOK Tryz.prog 24 = true := by kernel_rfl
@[go_sem] theorem ex24 : (cfg.ext 24).isSome = false := rfl
def cd14 : Cd := .seq (R [c0 3 (.new false (.s 1)), cb 4 (.mv (.c (kb false)))] [0, 3]) (.seq (.seq (RD (cd (some 5) false none (.mov 2 (.s 3)) false false [3] :: cd (some 6) false none (.ld false 1 (.s 5)) false false [5] :: cd (some 7) false none (.mv (.s 0)) false false [0] :: cd (some 8) false none (.mov 0 (.s 7)) false false [7] :: cd (some 9) false none (.mov 0 (.s 8)) false false [8] :: cd (some 10) false none (.ld false 1 (.s 9)) false false [9] :: cd (some 11) true none (.bin .neq .any (.s 6) (.s 10)) false false [6, 10] :: cd (some 12) true none (.mv (.s 11)) false false [11] :: cd (some 13) false (some (12, false)) (.mv (.s 0)) false false [0] :: cd (some 14) false (some (12, false)) (.mov 0 (.s 13)) false false [13] :: cd (some 15) false (some (12, false)) (.mov 1 (.s 14)) false false [14] :: cd (some 16) false (some (12, false)) (.ld true 2 (.s 15)) false false [15] :: cd (some 17) false (some (12, false)) (.mov 1 (.s 3)) false false [3] :: cd (some 18) false (some (12, false)) (.ld false 1 (.s 17)) false false [17] :: cd (some 19) true (some (12, false)) (.call none (.c (kf 34)) [(.s 16), (.s 18)]) false false [16, 18] :: cd (some 20) true (some (12, false)) (.un .not (.s 19)) false false [19] :: cd (some 21) true none (.pick (.s 12) (.c (kb true)) (.s 20)) false false [12, 20] :: cd (some 22) true none (.mv (.s 21)) false false [21] :: cd (some 23) false (some (22, false)) (.mv (.s 0)) false false [0] :: cd (some 24) false (some (22, false)) (.mov 0 (.s 23)) false false [23] :: cd (some 25) false (some (22, false)) (.mov 1 (.s 24)) false false [24] :: cd (some 26) false (some (22, false)) (.ld true 2 (.s 25)) false false [25] :: cd (some 27) false (some (22, false)) (.mov 2 (.s 3)) false false [3] :: cd (some 28) false (some (22, false)) (.ld false 1 (.s 27)) false false [27] :: cd (some 29) true (some (22, false)) (.call none (.c (kf 34)) [(.s 26), (.s 28)]) false false [26, 28] :: cd (some 30) true (some (22, false)) (.un .not (.s 29)) false false [29] :: cd (some 31) true none (.pick (.s 22) (.c (kb true)) (.s 30)) false false [22, 30] :: cd (some 32) true none (.mv (.s 31)) false false [31] :: cd (some 33) false (some (32, false)) (.mov 3 (.s 3)) false false [3] :: cd (some 34) false (some (32, false)) (.ld true 3 (.s 33)) false false [33] :: cd (some 35) true (some (32, false)) (.call none (.c (kf 35)) [(.s 34)]) false false [34] :: cd (some 36) true (some (32, false)) (.un .not (.s 35)) false false [35] :: cd (some 37) true none (.pick (.s 32) (.c (kb true)) (.s 36)) false false [32, 36] :: []) [0, 3, 37] []) (.ite (.s 37) (.seq (R [cb 4 (.mv (.c (kb false)))] [3, 4]) (.ret)) (.skip))) (.seq (RD (cd (some 38) false none (.mov 3 (.s 3)) false false [3] :: cd (some 39) false none (.mov 0 (.s 38)) false false [38] :: cd (some 40) false none (.ld false 1 (.s 39)) false false [39] :: cd (some 41) false none (.mv (.s 0)) false false [0] :: cd (some 42) false none (.mov 0 (.s 41)) false false [41] :: cd (some 43) false none (.mov 1 (.s 42)) false false [42] :: cd (some 44) false none (.mov 0 (.s 43)) false false [43] :: cd (some 45) false none (.ld false 1 (.s 44)) false false [44] :: cd (some 46) true none (.bin .eql .any (.s 40) (.s 45)) false false [40, 45] :: cd (some 47) true none (.mv (.s 46)) false false [46] :: cd (some 48) false (some (47, true)) (.mv (.s 0)) false false [0] :: cd (some 49) false (some (47, true)) (.mov 0 (.s 48)) false false [48] :: cd (some 50) false (some (47, true)) (.mov 1 (.s 49)) false false [49] :: cd (some 51) false (some (47, true)) (.ld true 2 (.s 50)) false false [50] :: cd (some 52) false (some (47, true)) (.mov 3 (.s 3)) false false [3] :: cd (some 53) false (some (47, true)) (.mov 1 (.s 52)) false false [52] :: cd (some 54) false (some (47, true)) (.ld false 1 (.s 53)) false false [53] :: cd (some 55) true (some (47, true)) (.call none (.c (kf 34)) [(.s 51), (.s 54)]) false false [51, 54] :: cd (some 56) true none (.pick (.s 47) (.s 55) (.c (kb false))) false false [47, 55] :: cd (some 57) true none (.mv (.s 56)) false false [56] :: cd (some 58) false (some (57, true)) (.mov 6 (.s 3)) false false [3] :: cd (some 59) false (some (57, true)) (.ld true 2 (.s 58)) false false [58] :: cd (some 60) true (some (57, true)) (.call none (.c (kf 36)) [(.s 59)]) false false [59] :: cd (some 61) true none (.pick (.s 57) (.s 60) (.c (kb false))) false false [57, 60] :: cd (some 62) true none (.mv (.s 61)) false false [61] :: cd (some 63) false (some (62, true)) (.mov 8 (.s 3)) false false [3] :: cd (some 64) false (some (62, true)) (.mov 3 (.s 63)) false false [63] :: cd (some 65) false (some (62, true)) (.ld true 2 (.s 64)) false false [64] :: cd (some 66) true (some (62, true)) (.call none (.c (kf 36)) [(.s 65)]) false false [65] :: cd (some 67) true none (.pick (.s 62) (.s 66) (.c (kb false))) false false [62, 66] :: cd (some 68) true none (.mv (.s 67)) false false [67] :: cd (some 69) false (some (68, true)) (.mov 3 (.s 3)) false false [3] :: cd (some 70) false (some (68, true)) (.ld true 3 (.s 69)) false false [69] :: cd (some 71) false (some (68, true)) (.mov 8 (.s 3)) false false [3] :: cd (some 72) false (some (68, true)) (.mov 13 (.s 71)) false false [71] :: cd (some 73) false (some (68, true)) (.ld true 2 (.s 72)) false false [72] :: cd (some 74) true (some (68, true)) (.call none (.c (kf 37)) [(.s 70), (.s 73)]) false false [70, 73] :: cd (some 75) true none (.pick (.s 68) (.s 74) (.c (kb false))) false false [68, 74] :: cd (some 4) true none (.mv (.s 75)) false false [75] :: []) [3, 4] []) (.ret)))
theorem fun14 : Fun Tryz.prog cfg 14 76 cd14 [.s 4] := ⟨rfl, Tryz.f14, _, Tryz.func14, rfl, rfl, by kernel_rfl, by kernel_rfl⟩
@[go_sem] theorem ok14 : calleeOK Tryz.prog 14 = true := by kernel_rfl
@[go_sem] theorem ex14 : (cfg.ext 14).isSome = false := rfl
def cd17 : Cd := .seq (R [c0 3 (.new false (.s 1)), c0 4 (.tk (.c (kn 27)))] [0, 3, 6, 7, 8]) (.seq (R [c0 9 (.mv (.s 0)), c0 10 (.ld true 27 (.s 3)), cb 11 (.call none (.c (kf 14)) [(.s 9), (.s 10)]), cb 5 (.tk (.s 11))] [0, 3, 5, 6, 7, 8]) (.seq (.seq (R [cb 12 (.mv (.s 5)), cb 13 (.un .not (.s 12))] [0, 3, 6, 7, 8, 13]) (.ite (.s 13) (.seq (R [c0 4 (.tk (.c (kn 27)))] [3, 4, 6, 7, 8]) (.ret)) (.skip))) (.seq (R [c0 14 (.mv (.s 0)), c0 15 (.mov 3 (.s 3)), c0 16 (.ld true 3 (.s 15)), c0 17 (.call none (.c (kf 21)) [(.s 14), (.s 16)]), c0 6 (.new false (.c (.agg [ki .i64 0, ki .i64 0, ki .i64 0, ki .i64 0, ki .i64 0, ki .i64 0, ki .i64 0, ki .i64 0, ks [], ks [], ki .i64 0, ki .i64 0, ki .i64 0, ki .i64 0, kn 3]))), cn (.st 15 (.s 6) (.s 17))] [0, 3, 6, 7, 8]) (.seq (RD [cd (some 18) false none (.mv (.s 0)) false false [0], cd (some 19) false none (.mov 0 (.s 18)) false false [18], cd (some 20) false none (.mov 0 (.s 19)) false false [19], cd (some 21) false none (.ld false 1 (.s 20)) false false [20], cd (some 22) false none (.mov 1 (.s 3)) false false [3], cd (some 23) false none (.ld false 1 (.s 22)) false false [22], cd (some 24) false none (.mov 3 (.s 3)) false false [3], cd (some 25) false none (.ld true 3 (.s 24)) false false [24], cd (some 26) false none (.mov 6 (.s 3)) false false [3], cd (some 27) false none (.ld true 2 (.s 26)) false false [26], cd (some 28) false none (.bld [ki .i64 0, ki .i64 0, ki .i64 0, ki .i64 0, ki .i64 0, ki .i64 0, ki .i64 0, ki .i64 0, ki .i64 0, ki .i64 0, ki .i64 0, ki .i64 0, ki .i64 0, ki .i64 0, ki .i64 0, ki .i64 0, ks [], ks [], ki .i64 0, ki .i64 0, ki .i64 0, ki .i64 0, kz 3, ki .i64 0, kz 1, kz 3, kz 6] [(1, 1, (.s 21)), (2, 1, (.s 23)), (3, 3, (.s 25)), (6, 2, (.s 27))]) false false [21, 23, 25, 27], cd (some 7) false none (.new false (.c (.agg [ki .i64 0, ki .i64 0, ki .i64 0, ki .i64 0, ki .i64 0, ki .i64 0, ki .i64 0, ki .i64 0, ki .i64 0, ki .i64 0, ki .i64 0, ki .i64 0, ki .i64 0, ki .i64 0, ki .i64 0, ki .i64 0, ks [], ks [], ki .i64 0, ki .i64 0, ki .i64 0, ki .i64 0, kn 3, ki .i64 0, kn 1, kn 3, kn 6]))) true false [], cd none false none (.st 27 (.s 7) (.s 28)) false false [7, 28]] [0, 3, 6, 7, 8] []) (.seq (.seq (R [c0 29 (.mov 0 (.s 3)), c0 30 (.ld false 1 (.s 29)), cb 31 (.bin .eql .any (.s 30) (.c (ki .i64 4)))] [0, 3, 6, 7, 8, 31]) (.ite (.s 31) (.seq (.seq (R [c0 32 (.mov 0 (.s 6)), c0 33 (.ld false 1 (.s 32)), cb 34 (.bin .neq .any (.s 33) (.c (ki .i64 3)))] [0, 3, 6, 7, 8, 34]) (.ite (.s 34) (R [c0 35 (.mv (.s 0)), c0 36 (.mov 3 (.s 3)), c0 37 (.ld true 3 (.s 36)), c0 38 (.mov 1 (.s 6)), c0 39 (.ld true 2 (.s 38)), c0 40 (.mov 8 (.s 3)), c0 41 (.mov 3 (.s 40)), c0 42 (.ld true 2 (.s 41)), c0 43 (.mov 8 (.s 3)), c0 44 (.mov 5 (.s 43)), c0 45 (.ld true 8 (.s 44)), c0 46 (.mov 8 (.s 3)), c0 47 (.mov 13 (.s 46)), c0 48 (.ld true 2 (.s 47)), c0 49 (.bld [ki .i64 0, ki .i64 0, ki .i64 0, ki .i64 0, ki .i64 0, ki .i64 0, ki .i64 0, ki .i64 0, ks [], ks [], ki .i64 0, ki .i64 0, ki .i64 0, ki .i64 0, kz 3] [(0, 1, (.c (ki .i64 3))), (1, 2, (.s 39)), (3, 2, (.s 42)), (5, 8, (.s 45)), (13, 2, (.s 48))]), c0 50 (.call none (.c (kf 45)) [(.s 35), (.s 37), (.s 49)])] [3, 6, 7, 8]) (.skip))) (.seq (R [c0 4 (.tk (.c (kn 27)))] [3, 4, 6, 7, 8]) (.ret))) (.skip))) (.seq (.seq (R [c0 51 (.mov 0 (.s 3)), c0 52 (.ld false 1 (.s 51)), cb 53 (.bin .neq .any (.s 52) (.c (ki .i64 0))), cb 54 (.mv (.s 53)), cg 55 54 true (.mov 0 (.s 3)), cg 56 54 true (.ld false 1 (.s 55)), ch 57 54 true (.bin .neq .any (.s 56) (.c (ki .i64 2))), cb 58 (.pick (.s 54) (.s 57) (.c (kb false))), cb 59 (.mv (.s 58)), cg 60 59 true (.mov 0 (.s 3)), cg 61 59 true (.ld false 1 (.s 60)), ch 62 59 true (.bin .neq .any (.s 61) (.c (ki .i64 5))), cb 63 (.pick (.s 59) (.s 62) (.c (kb false)))] [0, 3, 6, 7, 8, 63]) (.ite (.s 63) (.seq (R [c0 4 (.tk (.c (kn 27)))] [3, 4, 6, 7, 8]) (.ret)) (.skip))) (.seq (.seq (R [c0 64 (.mov 0 (.s 6)), c0 65 (.ld false 1 (.s 64)), cb 66 (.bin .eql .any (.s 65) (.c (ki .i64 3)))] [0, 3, 6, 7, 8, 66]) (.ite (.s 66) (.seq (R [c0 67 (.mov 0 (.s 7)), cn (.st 1 (.s 67) (.c (ki .i64 4)))] [3, 6, 7, 8]) (.seq (R [c0 68 (.ld true 15 (.s 6)), c0 69 (.mov 8 (.s 7)), cn (.st 15 (.s 69) (.s 68))] [3, 6, 7, 8]) (.seq (R [c0 70 (.ld true 27 (.s 7)), c0 71 (.bsl 27 [(.s 70)]), c0 4 (.tk (.s 71))] [3, 4, 6, 7, 8]) (.ret)))) (.skip))) (.seq (.seq (R [c0 72 (.mov 6 (.s 3)), c0 73 (.ld true 2 (.s 72)), c0 74 (.mov 1 (.s 6)), c0 75 (.ld true 2 (.s 74)), cb 76 (.call none (.c (kf 46)) [(.s 73), (.s 75)])] [0, 3, 6, 7, 8, 76]) (.ite (.s 76) (.seq (R [c0 77 (.mov 0 (.s 7)), cn (.st 1 (.s 77) (.c (ki .i64 7)))] [3, 6, 7, 8]) (.seq (R [c0 78 (.mov 1 (.s 6)), c0 79 (.ld true 2 (.s 78)), c0 80 (.mov 6 (.s 7)), cn (.st 2 (.s 80) (.s 79))] [3, 6, 7, 8]) (.seq (R [c0 81 (.ld true 27 (.s 7)), c0 82 (.bsl 27 [(.s 81)]), c0 4 (.tk (.s 82))] [3, 4, 6, 7, 8]) (.ret)))) (.skip))) (.seq (.seq (R [c0 83 (.mov 0 (.s 3)), c0 84 (.ld false 1 (.s 83))] [0, 3, 6, 7, 8, 84]) (.block 0 (.seq (R [cb 90 (.bin .eql .any (.s 84) (.c (ki .i64 0))), cb 89 (.tk (.s 90))] [0, 3, 6, 7, 8, 84, 89]) (.ite (.s 89) (.seq (R [c0 91 (.mov 0 (.s 7)), cn (.st 1 (.s 91) (.c (ki .i64 1)))] [0, 3, 6, 7, 8]) (.seq (.seq (R [c0 92 (.mov 0 (.s 6)), c0 93 (.ld false 1 (.s 92)), cb 94 (.bin .geq .any (.s 93) (.c (ki .i64 1))), cb 95 (.mv (.s 94)), cg 96 95 true (.mov 3 (.s 6)), cg 97 95 true (.ld true 2 (.s 96)), cg 98 95 true (.mov 6 (.s 3)), cg 99 95 true (.ld true 2 (.s 98)), ch 100 95 true (.bin .eql (.flat [0, 0]) (.s 97) (.s 99)), cb 101 (.pick (.s 95) (.s 100) (.c (kb false)))] [0, 3, 6, 7, 8, 101]) (.ite (.s 101) (.seq (.seq (R [c0 102 (.mov 0 (.s 6)), c0 103 (.ld false 1 (.s 102)), cb 104 (.bin .gtr .any (.s 103) (.c (ki .i64 1)))] [3, 6, 7, 8, 104]) (.ite (.s 104) (.seq (R [c0 4 (.tk (.c (kn 27)))] [3, 4, 6, 7, 8]) (.ret)) (.skip))) (.seq (R [c0 105 (.ld true 15 (.s 6)), c0 106 (.mov 8 (.s 7)), cn (.st 15 (.s 106) (.s 105))] [3, 6, 7, 8]) (.seq (R [c0 107 (.ld true 27 (.s 7)), c0 108 (.bsl 27 [(.s 107)]), c0 4 (.tk (.s 108))] [3, 4, 6, 7, 8]) (.ret)))) (.skip))) (.seq (RD [cd (some 109) false none (.mv (.s 0)) false false [0], cd (some 110) false none (.call none (.c (kf 24)) [(.s 109)]) false false [109], cd (some 111) false none (.mov 3 (.s 3)) false false [3], cd (some 112) false none (.ld true 3 (.s 111)) false false [111], cd (some 113) false none (.mov 8 (.s 3)) false false [3], cd (some 114) false none (.mov 5 (.s 113)) false false [113], cd (some 115) false none (.ld true 8 (.s 114)) false false [114], cd (some 116) false none (.call none (.c (kf 47)) [(.s 110), (.s 112), (.s 115)]) false false [110, 112, 115], cd (some 8) false none (.new false (.c (.agg [ki .i64 0, kn 3]))) true false [], cd none false none (.st 2 (.s 8) (.s 116)) false false [8, 116]] [0, 3, 6, 7, 8] [222, 228]) (RD [cd (some 117) false none (.mov 6 (.s 3)) false false [3], cd (some 118) false none (.ld true 2 (.s 117)) false false [117], cd (some 119) false none (.mov 6 (.s 3)) false false [3], cd (some 120) false none (.ld true 2 (.s 119)) false false [119], cd (some 121) false none (.mov 8 (.s 3)) false false [3], cd (some 122) false none (.mov 5 (.s 121)) false false [121], cd (some 123) false none (.ld true 8 (.s 122)) false false [122], cd (some 124) false none (.mov 8 (.s 3)) false false [3], cd (some 125) false none (.mov 13 (.s 124)) false false [124], cd (some 126) false none (.ld true 2 (.s 125)) false false [125], cd (some 127) false none (.ld true 2 (.s 8)) false false [8], cd (some 128) false none (.call none (.c (kf 48)) [(.s 126), (.s 127)]) false false [126, 127], cd (some 129) false none (.bld [ki .i64 0, ki .i64 0, ki .i64 0, ki .i64 0, ki .i64 0, ki .i64 0, ki .i64 0, ki .i64 0, ks [], ks [], ki .i64 0, ki .i64 0, ki .i64 0, ki .i64 0, kz 3] [(0, 1, (.c (ki .i64 1))), (1, 2, (.s 118)), (3, 2, (.s 120)), (5, 8, (.s 123)), (13, 2, (.s 128))]) false false [118, 120, 123, 128], cd none false none (.st 15 (.s 6) (.s 129)) false false [6, 129]] [0, 3, 6, 7, 8] [])))) (.seq (R [cb 131 (.bin .eql .any (.s 84) (.c (ki .i64 2))), cb 130 (.tk (.s 131))] [0, 3, 6, 7, 8, 130]) (.ite (.s 130) (.seq (R [c0 132 (.mov 0 (.s 7)), cn (.st 1 (.s 132) (.c (ki .i64 3)))] [0, 3, 6, 7, 8]) (R [c0 133 (.mov 6 (.s 3)), c0 134 (.ld true 2 (.s 133)), c0 135 (.mov 6 (.s 3)), c0 136 (.ld true 2 (.s 135)), c0 137 (.mov 8 (.s 3)), c0 138 (.mov 5 (.s 137)), c0 139 (.ld true 8 (.s 138)), c0 140 (.mov 8 (.s 3)), c0 141 (.mov 13 (.s 140)), c0 142 (.ld true 2 (.s 141)), c0 143 (.bld [ki .i64 0, ki .i64 0, ki .i64 0, ki .i64 0, ki .i64 0, ki .i64 0, ki .i64 0, ki .i64 0, ks [], ks [], ki .i64 0, ki .i64 0, ki .i64 0, ki .i64 0, kz 3] [(0, 1, (.c (ki .i64 2))), (1, 2, (.s 134)), (3, 2, (.s 136)), (5, 8, (.s 139)), (13, 2, (.s 142))]), cn (.st 15 (.s 6) (.s 143))] [0, 3, 6, 7, 8])) (.seq (R [c0 85 (.mov 0 (.s 7)), cn (.st 1 (.s 85) (.c (ki .i64 6)))] [0, 3, 6, 7, 8]) (R [c0 86 (.mov 6 (.s 3)), c0 87 (.ld true 2 (.s 86)), c0 88 (.mov 1 (.s 6)), cn (.st 2 (.s 88) (.s 87))] [0, 3, 6, 7, 8])))))))) (.seq (R [c0 144 (.mv (.s 0)), c0 145 (.mov 3 (.s 3)), c0 146 (.ld true 3 (.s 145)), c0 147 (.ld true 15 (.s 6)), c0 148 (.call none (.c (kf 45)) [(.s 144), (.s 146), (.s 147)])] [3, 6, 7, 8]) (.seq (R [c0 149 (.ld true 15 (.s 6)), c0 150 (.mov 8 (.s 7)), cn (.st 15 (.s 150) (.s 149))] [3, 6, 7, 8]) (.seq (R [c0 151 (.ld true 27 (.s 7)), c0 152 (.bsl 27 [(.s 151)]), c0 4 (.tk (.s 152))] [3, 4, 6, 7, 8]) (.ret)))))))))))))
theorem fun17 : Fun Tryz.prog cfg 17 153 cd17 [.s 4] := ⟨rfl, Tryz.f17, _, Tryz.func17, rfl, rfl, by kernel_rfl, by kernel_rfl⟩
@[go_sem] theorem ok17 : calleeOK Tryz.prog 17 = true := by kernel_rfl
@[go_sem] theorem ex17 : (cfg.ext 17).isSome = false := rfl
variable {h : DHeap}
theorem rin_lim (own : Bool) (l : List Int) (x : Int) (hl : l.length ≤ 1099511627776) :
    lim Tryz.prog cfg 60 [.list own 1 (vnums l), vi x] h = some (vb (decide (x ∈ l)), h) := by
  refine lim_funp fun60 rfl (by simp) (by simp [heapFree, heapFree.all, free_vnums]) rfl ?_
  delta cd60
  simp -implicitDefEqProofs -dsimp only [go_sem]
  refine wp_for (σ := Nat) (fun k => [(0, .list false 1 (vnums l)), (1, vi x), (5, vi (k : Nat))]) (fun _ => []) (fun k => l.length - k) (fun k => k ≤ l.length ∧ ∀ j (hj : j < l.length), j < k → l[j] ≠ x) 0 (by simp) rfl rfl ?_
  rintro k ⟨hk, hj⟩ N hN
  by_cases hlt : k < l.length
  · have h1 : ((k : Int) < (l.length : Int)) := by omega
    by_cases hc : l[k] = x
    · have e : x ∈ l := by rw [← hc]; exact List.getElem_mem hlt
      rw [decide_eq_true e]
      simp -implicitDefEqProofs -dsimp only [go_sem, wp_RD, h1, hlt, eq_true hc]
    · simp -implicitDefEqProofs -dsimp only [go_sem, wp_RD, h1, hlt, eq_false hc]
      refine hN (k + 1) _ (by omega) ⟨by omega, fun j hj1 hj2 => ?_⟩ ?_
      · by_cases e : j = k
        · subst e; exact hc
        · exact hj j hj1 (by omega)
      · simp -implicitDefEqProofs -dsimp only [go_sem, wrap_succ (show k < 9223372036854775807 by omega)]
  · have h1 : ¬ ((k : Int) < (l.length : Int)) := by omega
    have e : ¬ x ∈ l := fun hx => by
      obtain ⟨j, hj1, e⟩ := List.getElem_of_mem hx
      exact hj j hj1 (by omega) e
    rw [decide_eq_false e]
    simp -implicitDefEqProofs -dsimp only [go_sem, h1]
theorem rhasC_lim (e : Int) (l : List Int) (x : Int) (hl : l.length ≤ 1099511627776) :
    lim Tryz.prog cfg 34 [.agg [vi e, .list false 1 (vnums l)], vi x] h = some (vb (decide (x ∈ l)), h) := by
  refine lim_funp fun34 rfl (by simp) (by simp [heapFree, heapFree.all, free_vnums]) rfl ?_
  delta cd34
  have e1 := rin_lim (h := []) false l x hl
  simp -implicitDefEqProofs -dsimp only [go_sem, e1]
  simp
theorem rlessB_lim (a b : Bal) : lim Tryz.prog cfg 46 [.agg [vi a.no, vi a.node], .agg [vi b.no, vi b.node]] h = some (vb (lessB a b), h) := by
  refine lim_funp fun46 rfl (by simp) rfl rfl ?_
  delta cd46
  unfold lessB
  by_cases h1 : a.no = b.no
  · have h2 : ¬ a.no < b.no := by omega
    rw [if_pos h1]
    simp -implicitDefEqProofs -dsimp only [go_sem, eq_true h1, h2] <;> simp
  · rw [if_neg h1]
    by_cases h2 : a.no < b.no
    · simp -implicitDefEqProofs -dsimp only [go_sem, eq_false h1, h2] <;> simp
    · simp -implicitDefEqProofs -dsimp only [go_sem, eq_false h1, h2] <;> simp
theorem rvalidB_lim (x : Bal) : lim Tryz.prog cfg 36 [.agg [vi x.no, vi x.node]] h = some (vb (balB x), h) := by
  refine lim_funp fun36 rfl (by simp) rfl rfl ?_
  delta cd36
  unfold balB
  by_cases c1 : 0 ≤ x.no
  case neg => simp -implicitDefEqProofs -dsimp only [go_sem, c1] <;> simp [c1]
  by_cases c2 : x.no ≤ 1099511627776
  case neg => simp -implicitDefEqProofs -dsimp only [go_sem, c1, c2] <;> simp [c2]
  by_cases c3 : 0 ≤ x.node
  case neg => simp -implicitDefEqProofs -dsimp only [go_sem, c1, c2, c3] <;> simp [c3]
  by_cases c4 : x.node ≤ 31
  case neg => simp -implicitDefEqProofs -dsimp only [go_sem, c1, c2, c3, c4] <;> simp [c4]
  simp -implicitDefEqProofs -dsimp only [go_sem, c1, c2, c3, c4] <;> simp
theorem rsameA_self (a : Att) (hl : a.deps.length ≤ 1000000) : lim Tryz.prog cfg 25 [attD a, attD a] h = some (vb true, h) := by
  refine lim_funp fun25 rfl (by simp) (by simp [heapFree, heapFree.all, free_idr]) rfl ?_
  delta cd25
  have e1 := fun o => rclean_lim (h := []) o a.deps hl
  have e2 := fun o1 o2 => row_self (h := []) o1 o2 (cleanP a.deps) (by have := clean_len a.deps; omega)
  cases ho : ownC a.deps <;> simp only [ho] at e1 <;> simp -implicitDefEqProofs -dsimp only [go_sem, wp_RD, postC_path2, Nat.reduceDiv, e1, e2]
/-- The reference's rows. -/
def ones (f : Id → Ins) (l : List Id) : List (List DV) := l.map fun id => [vi id.e, vi id.n, vi id.k, vi (f id).st, vi (f id).pro.no, vi (f id).pro.node, vi (f id).vot.no, vi (f id).vot.node, vi (f id).cmd.client, vi (f id).cmd.seq, vi (f id).cmd.op, vs (f id).cmd.path, vs (f id).cmd.value, vi (f id).cmd.version, vi (f id).cmd.a, vi (f id).cmd.b, vi (f id).att.seq, .list false 3 (idr (f id).att.deps)]
@[go_sem] theorem ones_len (f : Id → Ins) (l : List Id) : (ones f l).length = l.length := by simp [ones]
theorem ones_snoc (f : Id → Ins) (l : List Id) (id : Id) : ones f (l ++ [id]) = ones f l ++ [[vi id.e, vi id.n, vi id.k, vi (f id).st, vi (f id).pro.no, vi (f id).pro.node, vi (f id).vot.no, vi (f id).vot.node, vi (f id).cmd.client, vi (f id).cmd.seq, vi (f id).cmd.op, vs (f id).cmd.path, vs (f id).cmd.value, vi (f id).cmd.version, vi (f id).cmd.a, vi (f id).cmd.b, vi (f id).att.seq, .list false 3 (idr (f id).att.deps)]] := by simp [ones]
theorem one_at {f : Id → Ins} {l : List Id} {k : Nat} (hk : k < l.length) (N : List DV → Prop) : IdxP (ones f l) (Nf (k : Int)) N = N [vi l[k].e, vi l[k].n, vi l[k].k, vi (f l[k]).st, vi (f l[k]).pro.no, vi (f l[k]).pro.node, vi (f l[k]).vot.no, vi (f l[k]).vot.node, vi (f l[k]).cmd.client, vi (f l[k]).cmd.seq, vi (f l[k]).cmd.op, vs (f l[k]).cmd.path, vs (f l[k]).cmd.value, vi (f l[k]).cmd.version, vi (f l[k]).cmd.a, vi (f l[k]).cmd.b, vi (f l[k]).att.seq, .list false 3 (idr (f l[k]).att.deps)] := by
  show IdxP (ones f l) (k : Int) N = _
  unfold ones
  rw [idxP_map]
  simp [IdxP, hk]
theorem below_ones (n : Nat) (f : Id → Ins) : ∀ l : List Id, below.alls n (ones f l) = true
  | [] => rfl
  | s :: l => by
    have := below_ones n f l
    simp only [ones] at this
    simp only [ones, List.map_cons, below.alls, below.all, below, below_idr, this, Bool.and_self]
abbrev objR (o : Bool) (b : Bk) : DObj := .cells [vi b.node, vi b.con.epoch, .list false 1 (vnums b.con.nodes), .list o 18 (ones (getB b) (idsB b))]
structure AtR (h : DHeap) (i : Nat) (o : Bool) (b : Bk) : Prop where
  o : h[i]? = some (objR o b)
theorem AtR.obj {i : Nat} {o : Bool} {b : Bk} (H : AtR h i o b) (N : List DV → Prop) : ObjP h i N = N [vi b.node, vi b.con.epoch, .list false 1 (vnums b.con.nodes), .list o 18 (ones (getB b) (idsB b))] := by simp only [ObjP, H.o]
theorem AtR.lt {i : Nat} {o : Bool} {b : Bk} (H : AtR h i o b) : i < h.length := (List.getElem?_eq_some_iff.1 H.o).1
theorem idsB_rises {n : Nat} {b : Bk} (O : BkOK n b) : Rises (idsB b) := sortD_rises O.nodup
theorem get_none {b : Bk} {id : Id} (hid : ¬ id ∈ idsB b) : getB b id = ins0 := by
  have : aget id b.m = none := aget_none.2 fun hk => hid (idsB_mem.2 hk)
  unfold getB
  rw [this]
  rfl
theorem idsB_set {n : Nat} {b : Bk} (O : BkOK n b) (id : Id) (x : Ins) : idsB (setB b id x) = setI (idsB b) id := by
  obtain ⟨h1, h2⟩ := setI_ok (x := id) (idsB_rises O)
  refine rises_eq (sortD_rises (nodup_set O.nodup)) h1 fun y => ?_
  rw [h2]
  show y ∈ idsB (setB b id x) ↔ _
  rw [idsB_mem, idsB_mem, ← aget_iff, ← aget_iff]
  show (aget y (aset id x b.m)).isSome = true ↔ _
  rw [aget_set]
  by_cases e : y = id <;> simp [e]
set_option maxHeartbeats 2000000 in
theorem rget_lim {i n : Nat} {ow : Bool} {b : Bk} (H : AtR h i ow b) (O : BkOK n b) (hn : n ≤ 99999) (id : Id) : lim Tryz.prog cfg 21 [.ptr i 0, .agg [vi id.e, vi id.n, vi id.k]] h = some (insD (getB b id), h) := by
  refine lim_fun fun21 rfl (by simp) rfl ?_
  delta cd21
  have hL : (idsB b).length ≤ 99999 := by rw [idsB_len]; have := O.len; omega
  cases ow
  all_goals
   simp -implicitDefEqProofs -dsimp only [go_sem]
   refine wp_for (σ := Nat) (fun k => [(0, .ptr i 0), (3, .box [vi id.e, vi id.n, vi id.k]), (4, .box [vi 0, vi 0, vi 0, vi 0, vi 0, vi 0, vi 0, vi 0, vs [], vs [], vi 0, vi 0, vi 0, vi 0, .list false 3 []]), (5, vi (k : Nat))]) (fun _ => h) (fun k => (idsB b).length - k) (fun k => k ≤ (idsB b).length ∧ ∀ j (hj : j < (idsB b).length), j < k → (idsB b)[j] ≠ id) 0 (by simp) rfl rfl ?_
   rintro k ⟨hk, hj⟩ N hN
   by_cases hlt : k < (idsB b).length
   · have h1 : ((k : Int) < ((idsB b).length : Int)) := by omega
     have q := fun N => one_at (f := getB b) hlt N
     by_cases hc : (idsB b)[k] = id
     · have e : getB b id = getB b (idsB b)[k] := by rw [hc]
       rw [e]
       simp -implicitDefEqProofs -dsimp only [go_sem, ↓q, wp_RD, postC_path2, Nat.reduceDiv, H.obj, h1, eq_true hc]
     · simp -implicitDefEqProofs -dsimp only [go_sem, ↓q, wp_RD, postC_path2, Nat.reduceDiv, H.obj, h1, eq_false hc]
       refine hN (k + 1) _ (by omega) ⟨by omega, fun j hj1 hj2 => ?_⟩ ?_
       · by_cases e : j = k
         · subst e; exact hc
         · exact hj j hj1 (by omega)
       · simp -implicitDefEqProofs -dsimp only [go_sem, wrap_succ (show k < 9223372036854775807 by omega)]
   · have h1 : ¬ ((k : Int) < ((idsB b).length : Int)) := by omega
     have e : ¬ id ∈ idsB b := fun hx => by
       obtain ⟨j, hj1, e⟩ := List.getElem_of_mem hx
       exact hj j hj1 (by omega) e
     rw [get_none e]
     simp -implicitDefEqProofs -dsimp only [go_sem, H.obj, h1]
     rfl
end Go.DS

/-
  Walks: the reference's book hears.
-/
namespace Go.DS
open Go Go.Proofs
set_option maxRecDepth 100000
set_option linter.unusedVariables false
set_option linter.unusedSimpArgs false
variable {h : DHeap}
theorem szO {n : Nat} (h : n ≤ 2000000) : (n + 1) * 195 ≤ maxLenD ∧ (n + 1 + 1) * 195 ≤ maxLenD := by unfold maxLenD; omega
set_option maxHeartbeats 8000000 in
theorem rset_lim {i n : Nat} {ow : Bool} {b : Bk} (H : AtR h i ow b) (O : BkOK n b) (hn : n ≤ 99999) (id : Id) (x : Ins) : lim Tryz.prog cfg 45 [.ptr i 0, .agg [vi id.e, vi id.n, vi id.k], insD x] h = some (.tup [], h.set i (objR true (setB b id x))) := by
  have hL : (idsB b).length ≤ 99999 := by rw [idsB_len]; have := O.len; omega
  have hR : objR true (setB b id x) = .cells [vi b.node, vi b.con.epoch, .list false 1 (vnums b.con.nodes), .list true 18 (ones (fun j => if j = id then x else getB b j) (setI (idsB b) id))] := by
    show DObj.cells [vi b.node, vi b.con.epoch, .list false 1 (vnums b.con.nodes), .list true 18 (ones (getB (setB b id x)) (idsB (setB b id x)))] = _
    rw [idsB_set O, show getB (setB b id x) = fun j => if j = id then x else getB b j from funext fun j => get_set b id j x]
  rw [hR]
  refine lim_fun fun45 rfl (by simp) rfl ?_
  delta cd45
  simp -implicitDefEqProofs -dsimp only [go_sem]
  have fi : (fun j => if j = id then x else getB b j) id = x := if_pos rfl
  have fo : ∀ j, j ≠ id → (fun j => if j = id then x else getB b j) j = getB b j := fun j hj => if_neg hj
  generalize (fun j => if j = id then x else getB b j) = f at *
  have sn : ∀ l, ones f (l ++ [id]) = ones f l ++ [[vi id.e, vi id.n, vi id.k, vi x.st, vi x.pro.no, vi x.pro.node, vi x.vot.no, vi x.vot.node, vi x.cmd.client, vi x.cmd.seq, vi x.cmd.op, vs x.cmd.path, vs x.cmd.value, vi x.cmd.version, vi x.cmd.a, vi x.cmd.b, vi x.att.seq, .list false 3 (idr x.att.deps)]] := fun l => by rw [ones_snoc, fi]
  cases ow
  all_goals
   refine wp_for (σ := Nat) (fun k => [(0, .ptr i 0), (4, .box [vi id.e, vi id.n, vi id.k]), (5, .box (insL x)), (6, .list true 18 (ones f (((idsB b).take k).foldl (stepI id) ([], false)).1)), (7, vb (((idsB b).take k).foldl (stepI id) ([], false)).2), (8, vi (k : Nat))]) (fun _ => h) (fun k => (idsB b).length - k) (fun k => k ≤ (idsB b).length) 0 (by simp) rfl rfl ?_
   rintro k hk N hN
   have sl : (((idsB b).take k).foldl (stepI id) ([], false)).1.length ≤ 2000000 := by
     have := foldStep_len id ((idsB b).take k) ([], false)
     rw [List.length_take] at this
     simp only [List.length_nil] at this
     omega
   by_cases hlt : k < (idsB b).length
   · have h1 : ((k : Int) < ((idsB b).length : Int)) := by omega
     have q := fun N => one_at (f := getB b) hlt N
     have ss := step_snoc id hlt
     have e2 := rlessD_lim (h := h) id (idsB b)[k]
     have N2 := hN (k + 1)
     rw [ss] at N2
     clear hN ss
     generalize ((idsB b).take k).foldl (stepI id) ([], false) = s at *
     obtain ⟨m, d⟩ := s
     dsimp only at sl
     obtain ⟨hm1, hm2⟩ := szO sl
     rw [← ones_len f m] at hm1
     have hm3 : (((ones f m) ++ [[vi id.e, vi id.n, vi id.k, vi x.st, vi x.pro.no, vi x.pro.node, vi x.vot.no, vi x.vot.node, vi x.cmd.client, vi x.cmd.seq, vi x.cmd.op, vs x.cmd.path, vs x.cmd.value, vi x.cmd.version, vi x.cmd.a, vi x.cmd.b, vi x.att.seq, .list false 3 (idr x.att.deps)]]).length + 1) * 195 ≤ maxLenD := by
       rw [List.length_append, ones_len]; exact hm2
     have hm1' : (m.length + 1) * 195 ≤ maxLenD := by rw [ones_len] at hm1; exact hm1
     by_cases hid : (idsB b)[k] = id
     · have hless : lessI id (idsB b)[k] = false := by rw [hid]; simp [lessI, ordI_irr]
       rw [hless] at e2
       have es : stepI id (m, d) (idsB b)[k] = (m, d) := by unfold stepI; rw [if_pos hid, hless]; simp
       rw [es] at N2
       cases d with
       | true =>
         simp -implicitDefEqProofs -dsimp only [go_sem, ↓q, wp_RD, postC_path2, Nat.reduceDiv, H.obj, h1, eq_true hid]
         refine N2 _ (by omega) (by omega) ?_
         simp -implicitDefEqProofs -dsimp only [go_sem, wrap_succ (show k < 9223372036854775807 by omega)]
       | false =>
         simp -implicitDefEqProofs -dsimp only [go_sem, ↓q, wp_RD, postC_path2, Nat.reduceDiv, H.obj, h1, eq_true hid, e2]
         refine N2 _ (by omega) (by omega) ?_
         simp -implicitDefEqProofs -dsimp only [go_sem, wrap_succ (show k < 9223372036854775807 by omega)]
     have fk := ones_snoc f
     have sk : ∀ l, ones f (l ++ [(idsB b)[k]]) = ones f l ++ [[vi (idsB b)[k].e, vi (idsB b)[k].n, vi (idsB b)[k].k, vi (getB b (idsB b)[k]).st, vi (getB b (idsB b)[k]).pro.no, vi (getB b (idsB b)[k]).pro.node, vi (getB b (idsB b)[k]).vot.no, vi (getB b (idsB b)[k]).vot.node, vi (getB b (idsB b)[k]).cmd.client, vi (getB b (idsB b)[k]).cmd.seq, vi (getB b (idsB b)[k]).cmd.op, vs (getB b (idsB b)[k]).cmd.path, vs (getB b (idsB b)[k]).cmd.value, vi (getB b (idsB b)[k]).cmd.version, vi (getB b (idsB b)[k]).cmd.a, vi (getB b (idsB b)[k]).cmd.b, vi (getB b (idsB b)[k]).att.seq, .list false 3 (idr (getB b (idsB b)[k]).att.deps)]] := fun l => by rw [ones_snoc, fo _ hid]
     cases d with
     | true =>
       have es : stepI id (m, true) (idsB b)[k] = (m ++ [(idsB b)[k]], true) := by simp [stepI, hid]
       rw [es] at N2
       dsimp only at N2
       rw [sk] at N2
       simp -implicitDefEqProofs -dsimp only [go_sem, ↓q, wp_RD, postC_path2, Nat.reduceDiv, H.obj, h1, eq_false hid, hm1']
       refine N2 _ (by omega) (by omega) ?_
       simp -implicitDefEqProofs -dsimp only [go_sem, wrap_succ (show k < 9223372036854775807 by omega)]
     | false =>
       cases hc : lessI id (idsB b)[k] with
       | true =>
         rw [hc] at e2
         have es : stepI id (m, false) (idsB b)[k] = (m ++ [id] ++ [(idsB b)[k]], true) := by simp [stepI, hid, hc]
         rw [es] at N2
         dsimp only at N2
         rw [sk, sn] at N2
         simp -implicitDefEqProofs -dsimp only [go_sem, ↓q, wp_RD, postC_path2, Nat.reduceDiv, H.obj, h1, eq_false hid, hm1', hm3, e2]
         refine N2 _ (by omega) (by omega) ?_
         simp -implicitDefEqProofs -dsimp only [go_sem, wrap_succ (show k < 9223372036854775807 by omega)]
       | false =>
         rw [hc] at e2
         have es : stepI id (m, false) (idsB b)[k] = (m ++ [(idsB b)[k]], false) := by simp [stepI, hid, hc]
         rw [es] at N2
         dsimp only at N2
         rw [sk] at N2
         simp -implicitDefEqProofs -dsimp only [go_sem, ↓q, wp_RD, postC_path2, Nat.reduceDiv, H.obj, h1, eq_false hid, hm1', e2]
         refine N2 _ (by omega) (by omega) ?_
         simp -implicitDefEqProofs -dsimp only [go_sem, wrap_succ (show k < 9223372036854775807 by omega)]
   · have h1 : ¬ ((k : Int) < ((idsB b).length : Int)) := by omega
     rw [List.take_of_length_le (by omega)] at *
     unfold setI
     clear hN
     generalize (idsB b).foldl (stepI id) ([], false) = s at *
     obtain ⟨m, d⟩ := s
     dsimp only at sl
     obtain ⟨hm1, hm2⟩ := szO sl
     cases d with
     | true =>
       rw [if_pos rfl]
       simp -implicitDefEqProofs -dsimp only [go_sem, H.obj, h1]
     | false =>
       rw [if_neg (by simp)]
       dsimp only
       rw [sn]
       simp -implicitDefEqProofs -dsimp only [go_sem, H.obj, h1, hm1]
end Go.DS

/-
  Walks: the reference's book hears.
-/
namespace Go.DS
open Go Go.Proofs
set_option maxRecDepth 100000
set_option linter.unusedVariables false
set_option linter.unusedSimpArgs false
variable {h : DHeap}
set_option maxHeartbeats 4000000 in
theorem rknown_lim {i n : Nat} {ow : Bool} {b : Bk} (H : AtR h i ow b) (O : BkOK n b) (hn : n ≤ 99999) : lim Tryz.prog cfg 24 [.ptr i 0] h = some (.list true 13 (kns (knownB b)), h) := by
  refine lim_fun fun24 rfl (by simp) rfl ?_
  delta cd24
  have hL : (idsB b).length ≤ 100000 := by rw [idsB_len]; have := O.len; omega
  cases ow
  all_goals
    simp -implicitDefEqProofs -dsimp only [go_sem]
    refine wp_for (σ := Nat) (fun k => [(0, .ptr i 0), (3, .list true 13 (kns (knownN b k))), (4, vi (k : Nat))]) (fun _ => h) (fun k => (idsB b).length - k) (fun k => k ≤ (idsB b).length) 0 (Nat.zero_le _) rfl rfl ?_
    rintro k hk N hN
    by_cases hlt : k < (idsB b).length
    · have h1 : ((k : Int) < ((idsB b).length : Int)) := by omega
      have q := fun N => one_at (f := getB b) hlt N
      have e2 := knownN_succ b k hlt
      have hm : ((knownN b k).length + 1) * 150 ≤ maxLenD := by have := knownN_len b k; unfold maxLenD; omega
      by_cases c1 : 1 ≤ (getB b (idsB b)[k]).st
      · rw [if_pos c1] at e2
        have e4 : kns (knownN b (k + 1)) = kns (knownN b k) ++ [[vi (idsB b)[k].e, vi (idsB b)[k].n, vi (idsB b)[k].k, vi (getB b (idsB b)[k]).cmd.client, vi (getB b (idsB b)[k]).cmd.seq, vi (getB b (idsB b)[k]).cmd.op, vs (getB b (idsB b)[k]).cmd.path, vs (getB b (idsB b)[k]).cmd.value, vi (getB b (idsB b)[k]).cmd.version, vi (getB b (idsB b)[k]).cmd.a, vi (getB b (idsB b)[k]).cmd.b, vi (getB b (idsB b)[k]).att.seq, .list false 3 (idr (getB b (idsB b)[k]).att.deps)]] := by
          rw [e2]; exact (kns_snoc' (knownN b k) (knoB b (idsB b)[k])).symm
        simp -implicitDefEqProofs -dsimp only [go_sem, ↓q, wp_RD, postC_path2, Nat.reduceDiv, H.obj, h1, c1, hm]
        refine hN (k + 1) _ (by omega) (by omega) ?_
        simp -implicitDefEqProofs -dsimp only [go_sem, wrap_succ (show k < 9223372036854775807 by omega), e4]
      · rw [if_neg c1] at e2
        simp -implicitDefEqProofs -dsimp only [go_sem, ↓q, H.obj, h1, c1]
        refine hN (k + 1) _ (by omega) (by omega) ?_
        simp -implicitDefEqProofs -dsimp only [go_sem, wrap_succ (show k < 9223372036854775807 by omega), e2]
    · have h1 : ¬ ((k : Int) < ((idsB b).length : Int)) := by omega
      have e2 : knownN b k = knownB b := by unfold knownN knownB; rw [List.take_of_length_le (by omega)]
      simp -implicitDefEqProofs -dsimp only [go_sem, H.obj, h1, e2]
set_option maxHeartbeats 4000000 in
theorem rright_lim15 {i : Nat} {ow : Bool} {b : Bk} (H : AtR h i ow b) (hl : b.con.nodes.length ≤ 1048576) (m : Mes) (hm : m.ins.att.deps.length ≤ 1048576) : lim Tryz.prog cfg 14 [.ptr i 0, mesD m] h = some (vb (rightB b m), h) := by
  refine lim_fun fun14 rfl (by simp) rfl ?_
  delta cd14
  have e1 := rhasC_lim (h := h) b.con.epoch b.con.nodes m.frm (by omega)
  have e2 := rhasC_lim (h := h) b.con.epoch b.con.nodes m.to (by omega)
  have e3 := rhasC_lim (h := h) b.con.epoch b.con.nodes m.id.n (by omega)
  have e4 := rvalidD_lim (h := h) m.id
  have e5 := rvalidB_lim (h := h) m.bal
  have e6 := rvalidB_lim (h := h) m.ins.vot
  have e7 := rvalidA_lim (h := h) m.id m.ins.att (by omega)
  unfold rightB memB
  by_cases c0 : m.to = b.node
  case neg => simp -implicitDefEqProofs -dsimp only [go_sem, wp_RD, postC_path2, Nat.reduceDiv, H.obj, eq_false c0] <;> simp [c0]
  cases c1 : decide (m.frm ∈ b.con.nodes) with
  | false => rw [c1] at e1; simp -implicitDefEqProofs -dsimp only [go_sem, wp_RD, postC_path2, Nat.reduceDiv, H.obj, eq_true c0, e1] <;> simp
  | true =>
  rw [c1] at e1
  cases c2 : decide (m.to ∈ b.con.nodes) with
  | false => rw [c2] at e2; simp -implicitDefEqProofs -dsimp only [go_sem, wp_RD, postC_path2, Nat.reduceDiv, H.obj, eq_true c0, e1, e2] <;> simp
  | true =>
  rw [c2] at e2
  cases c4 : validI m.id with
  | false => rw [c4] at e4; simp -implicitDefEqProofs -dsimp only [go_sem, wp_RD, postC_path2, Nat.reduceDiv, H.obj, eq_true c0, e1, e2, e4] <;> simp
  | true =>
  rw [c4] at e4
  by_cases c5 : m.id.e = b.con.epoch
  case neg => simp -implicitDefEqProofs -dsimp only [go_sem, wp_RD, postC_path2, Nat.reduceDiv, H.obj, eq_true c0, e1, e2, e4, eq_false c5] <;> simp [c5]
  cases c3 : decide (m.id.n ∈ b.con.nodes) with
  | false => rw [c3] at e3; simp -implicitDefEqProofs -dsimp only [go_sem, wp_RD, postC_path2, Nat.reduceDiv, H.obj, eq_true c0, e1, e2, e3, e4, eq_true c5] <;> simp
  | true =>
  rw [c3] at e3
  cases c6 : balB m.bal with
  | false => rw [c6] at e5; simp -implicitDefEqProofs -dsimp only [go_sem, wp_RD, postC_path2, Nat.reduceDiv, H.obj, eq_true c0, e1, e2, e3, e4, eq_true c5, e5] <;> simp
  | true =>
  rw [c6] at e5
  cases c7 : balB m.ins.vot with
  | false => rw [c7] at e6; simp -implicitDefEqProofs -dsimp only [go_sem, wp_RD, postC_path2, Nat.reduceDiv, H.obj, eq_true c0, e1, e2, e3, e4, eq_true c5, e5, e6] <;> simp
  | true =>
  rw [c7] at e6
  cases c8 : validA m.id m.ins.att <;> rw [c8] at e7 <;> simp -implicitDefEqProofs -dsimp only [go_sem, wp_RD, postC_path2, Nat.reduceDiv, H.obj, eq_true c0, e1, e2, e3, e4, eq_true c5, e5, e6, e7] <;> simp
end Go.DS

/-
  Walks: the reference hears a message.
-/
namespace Go.DS
open Go Go.Proofs
set_option maxRecDepth 100000
set_option linter.unusedVariables false
set_option linter.unusedSimpArgs false
variable {h : DHeap}
theorem same_objR {i : Nat} {ow : Bool} {b : Bk} (H : AtR h i ow b) : h.set i (objR ow b) = h := set_same15 H.o
set_option maxHeartbeats 8000000 in
theorem rhear_lim {i n : Nat} {ow : Bool} {b : Bk} (H : AtR h i ow b) (O : BkOK n b) (hn : n ≤ 99999) (hc : b.con.nodes.length ≤ 1048576) (m : Mes) (hm : MesOK m) :
    ∃ o', lim Tryz.prog cfg 17 [.ptr i 0, mesD m] h = some (.list true 27 (mess (hearB b m).1), h.set i (objR o' (hearB b m).2)) := by
  have h1 := hm.path
  have h2 := hm.deps
  have hs := same_objR H
  have hsm := get_small O m.id
  have e1 := rright_lim15 H hc m (by omega)
  have e2 := rget_lim H O hn m.id
  by_cases c0 : rightB b m = false
  · rw [hear_wrong c0]
    rw [c0] at e1
    refine ⟨ow, lim_fun fun17 rfl (by simp) rfl ?_⟩
    delta cd17
    simp -implicitDefEqProofs -dsimp (maxSteps := 300000) only [go_sem, wp_RD, postC_path2, Nat.reduceDiv, H.obj, e1]
    exact ⟨rfl, hs.symm⟩
  have c0' : rightB b m = true := by simpa using c0
  rw [c0'] at e1
  by_cases c1 : m.kind = 4
  · by_cases c2 : (getB b m.id).st = 3
    · have e : hearB b m = ([], b) := by
        unfold hearB
        rw [if_neg c0, if_neg (by rw [c2]; simp), if_pos (by rw [c1]; decide)]
      rw [e]
      refine ⟨ow, lim_fun fun17 rfl (by simp) rfl ?_⟩
      delta cd17
      simp -implicitDefEqProofs -dsimp (maxSteps := 300000) only [go_sem, wp_RD, postC_path2, Nat.reduceDiv, H.obj, e1, e2, eq_true c1, eq_true c2]
      exact ⟨rfl, hs.symm⟩
    · have e : hearB b m = ([], setB b m.id ⟨3, (getB b m.id).pro, m.ins.vot, m.ins.cmd, m.ins.att⟩) := by unfold hearB; rw [if_neg c0, if_pos ⟨c1, c2⟩]
      rw [e]
      have e5 := rset_lim H O hn m.id ⟨3, (getB b m.id).pro, m.ins.vot, m.ins.cmd, m.ins.att⟩
      refine ⟨true, lim_fun fun17 rfl (by simp) rfl ?_⟩
      delta cd17
      simp -implicitDefEqProofs -dsimp (maxSteps := 300000) only [go_sem, wp_RD, postC_path2, Nat.reduceDiv, H.obj, e1, e2, eq_true c1, eq_false c2, e5]
      first | rfl | exact ⟨rfl, rfl⟩
  have c1' : ¬ (m.kind = 4 ∧ (getB b m.id).st ≠ 3) := fun q => c1 q.1
  by_cases c2 : voteB m.kind = false
  · have e : hearB b m = ([], b) := by unfold hearB; rw [if_neg c0, if_neg c1', if_pos c2]
    rw [e]
    simp only [voteB, Bool.or_eq_false_iff, decide_eq_false_iff_not] at c2
    obtain ⟨⟨v1, v2⟩, v3⟩ := c2
    refine ⟨ow, lim_fun fun17 rfl (by simp) rfl ?_⟩
    delta cd17
    simp -implicitDefEqProofs -dsimp (maxSteps := 300000) only [go_sem, wp_RD, postC_path2, Nat.reduceDiv, H.obj, e1, e2, eq_false c1, eq_false v1, eq_false v2, eq_false v3]
    exact ⟨rfl, hs.symm⟩
  have c2' : m.kind = 0 ∨ m.kind = 2 ∨ m.kind = 5 := by
    have : voteB m.kind = true := by simpa using c2
    simp only [voteB, Bool.or_eq_true, decide_eq_true_eq] at this
    omega
  by_cases c3 : (getB b m.id).st = 3
  · have e : hearB b m = ([ansB b m 4 (getB b m.id)], b) := by unfold hearB; rw [if_neg c0, if_neg c1', if_neg c2, if_pos c3]
    rw [e]
    rcases c2' with v | v | v
    · refine ⟨ow, lim_fun fun17 rfl (by simp) rfl ?_⟩
      delta cd17
      simp -implicitDefEqProofs -dsimp (maxSteps := 300000) only [go_sem, wp_RD, postC_path2, Nat.reduceDiv, H.obj, e1, e2, eq_false c1, eq_true v, eq_true c3]
      exact ⟨rfl, hs.symm⟩
    · have v0 : ¬ m.kind = 0 := by omega
      refine ⟨ow, lim_fun fun17 rfl (by simp) rfl ?_⟩
      delta cd17
      simp -implicitDefEqProofs -dsimp (maxSteps := 300000) only [go_sem, wp_RD, postC_path2, Nat.reduceDiv, H.obj, e1, e2, eq_false c1, eq_true v, eq_false v0, eq_true c3]
      exact ⟨rfl, hs.symm⟩
    · have v0 : ¬ m.kind = 0 := by omega
      have v2 : ¬ m.kind = 2 := by omega
      refine ⟨ow, lim_fun fun17 rfl (by simp) rfl ?_⟩
      delta cd17
      simp -implicitDefEqProofs -dsimp (maxSteps := 300000) only [go_sem, wp_RD, postC_path2, Nat.reduceDiv, H.obj, e1, e2, eq_false c1, eq_true v, eq_false v0, eq_false v2, eq_true c3]
      exact ⟨rfl, hs.symm⟩
  cases c5 : lessB m.bal (getB b m.id).pro with
  | true =>
    have e : hearB b m = ([ansB b { m with bal := (getB b m.id).pro } 7 ins0], b) := by unfold hearB; rw [if_neg c0, if_neg c1', if_neg c2, if_neg c3, if_pos c5]
    rw [e]
    have e6 := rlessB_lim (h := h) m.bal (getB b m.id).pro
    rw [c5] at e6
    rcases c2' with v | v | v
    · refine ⟨ow, lim_fun fun17 rfl (by simp) rfl ?_⟩
      delta cd17
      simp -implicitDefEqProofs -dsimp (maxSteps := 300000) only [go_sem, wp_RD, postC_path2, Nat.reduceDiv, H.obj, e1, e2, eq_false c1, eq_true v, eq_false c3, e6]
      exact ⟨rfl, hs.symm⟩
    · have v0 : ¬ m.kind = 0 := by omega
      refine ⟨ow, lim_fun fun17 rfl (by simp) rfl ?_⟩
      delta cd17
      simp -implicitDefEqProofs -dsimp (maxSteps := 300000) only [go_sem, wp_RD, postC_path2, Nat.reduceDiv, H.obj, e1, e2, eq_false c1, eq_true v, eq_false v0, eq_false c3, e6]
      exact ⟨rfl, hs.symm⟩
    · have v0 : ¬ m.kind = 0 := by omega
      have v2 : ¬ m.kind = 2 := by omega
      refine ⟨ow, lim_fun fun17 rfl (by simp) rfl ?_⟩
      delta cd17
      simp -implicitDefEqProofs -dsimp (maxSteps := 300000) only [go_sem, wp_RD, postC_path2, Nat.reduceDiv, H.obj, e1, e2, eq_false c1, eq_true v, eq_false v0, eq_false v2, eq_false c3, e6]
      exact ⟨rfl, hs.symm⟩
  | false =>
    have e6 := rlessB_lim (h := h) m.bal (getB b m.id).pro
    rw [c5] at e6
    have e : hearB b m = if m.kind = 0 then preB b m (getB b m.id) else if m.kind = 2 then acceptB b m (getB b m.id) else prepareB b m (getB b m.id) := by
      unfold hearB; rw [if_neg c0, if_neg c1', if_neg c2, if_neg c3, if_neg (by rw [c5]; simp)]
    rw [e]
    rcases c2' with v | v | v
    · rw [if_pos v]
      by_cases w1 : 1 ≤ (getB b m.id).st
      · by_cases w2 : (getB b m.id).vot = m.bal
        · by_cases w3 : (getB b m.id).st = 1
          · have w3' : ¬ 1 < (getB b m.id).st := by omega
            have ep : preB b m (getB b m.id) = ([ansB b m 1 (getB b m.id)], b) := by unfold preB; rw [if_pos ⟨w1, w2⟩, if_neg (by simp [w3])]
            rw [ep]
            refine ⟨ow, lim_fun fun17 rfl (by simp) rfl ?_⟩
            delta cd17
            simp -implicitDefEqProofs -dsimp (maxSteps := 300000) only [go_sem, wp_RD, postC_path2, Nat.reduceDiv, H.obj, e1, e2, eq_false c1, eq_true v, eq_false c3, e6, w1, eq_true w2, w3']
            exact ⟨rfl, hs.symm⟩
          · have w3' : 1 < (getB b m.id).st := by omega
            have ep : preB b m (getB b m.id) = ([], b) := by unfold preB; rw [if_pos ⟨w1, w2⟩, if_pos w3]
            rw [ep]
            refine ⟨ow, lim_fun fun17 rfl (by simp) rfl ?_⟩
            delta cd17
            simp -implicitDefEqProofs -dsimp (maxSteps := 300000) only [go_sem, wp_RD, postC_path2, Nat.reduceDiv, H.obj, e1, e2, eq_false c1, eq_true v, eq_false c3, e6, w1, eq_true w2, w3']
            exact ⟨rfl, hs.symm⟩
        · have hc2 : ¬ (1 ≤ (getB b m.id).st ∧ (getB b m.id).vot = m.bal) := fun q => w2 q.2
          have ep : preB b m (getB b m.id) = keepB b m 1 ⟨1, m.bal, m.bal, m.ins.cmd, mergeP m.ins.att (localP (knownB b) m.id m.ins.cmd)⟩ := by unfold preB; rw [if_neg hc2]
          rw [ep]
          have hl := knownB_len b
          have hn2 := O.len
          obtain ⟨l1, l2, l3⟩ := local_ok O m.id m.ins.cmd
          have k1 := rknown_lim H O hn
          have k2 := fun own => rlocal_lim (h := h) own (knownB b) m.id m.ins.cmd (by omega) (fun y hy => by
            obtain ⟨z, hz, q1, q2⟩ := knownB_ok O y hy
            have := hz.path
            have := hz.seq1
            rw [q1, q2]
            dsimp only at *
            omega) (by omega)
          have k3 := rmerge_lim (h := h) m.ins.att (localP (knownB b) m.id m.ins.cmd) (by omega)
          have e5 := rset_lim H O hn m.id ⟨1, m.bal, m.bal, m.ins.cmd, mergeP m.ins.att (localP (knownB b) m.id m.ins.cmd)⟩
          refine ⟨true, lim_fun fun17 rfl (by simp) rfl ?_⟩
          delta cd17
          simp -implicitDefEqProofs -dsimp (maxSteps := 300000) only [go_sem, wp_RD, postC_path2, Nat.reduceDiv, H.obj, e1, e2, eq_false c1, eq_true v, eq_false c3, e6, w1, eq_false w2, k1, k2, k3, e5]
          first | rfl | exact ⟨rfl, rfl⟩
      · have hc2 : ¬ (1 ≤ (getB b m.id).st ∧ (getB b m.id).vot = m.bal) := fun q => w1 q.1
        have ep : preB b m (getB b m.id) = keepB b m 1 ⟨1, m.bal, m.bal, m.ins.cmd, mergeP m.ins.att (localP (knownB b) m.id m.ins.cmd)⟩ := by unfold preB; rw [if_neg hc2]
        rw [ep]
        have hl := knownB_len b
        have hn2 := O.len
        obtain ⟨l1, l2, l3⟩ := local_ok O m.id m.ins.cmd
        have k1 := rknown_lim H O hn
        have k2 := fun own => rlocal_lim (h := h) own (knownB b) m.id m.ins.cmd (by omega) (fun y hy => by
          obtain ⟨z, hz, q1, q2⟩ := knownB_ok O y hy
          have := hz.path
          have := hz.seq1
          rw [q1, q2]
          dsimp only at *
          omega) (by omega)
        have k3 := rmerge_lim (h := h) m.ins.att (localP (knownB b) m.id m.ins.cmd) (by omega)
        have e5 := rset_lim H O hn m.id ⟨1, m.bal, m.bal, m.ins.cmd, mergeP m.ins.att (localP (knownB b) m.id m.ins.cmd)⟩
        refine ⟨true, lim_fun fun17 rfl (by simp) rfl ?_⟩
        delta cd17
        simp -implicitDefEqProofs -dsimp (maxSteps := 300000) only [go_sem, wp_RD, postC_path2, Nat.reduceDiv, H.obj, e1, e2, eq_false c1, eq_true v, eq_false c3, e6, w1, k1, k2, k3, e5]
        first | rfl | exact ⟨rfl, rfl⟩
    · have v0 : ¬ m.kind = 0 := by omega
      rw [if_neg v0, if_pos v]
      have e5 := rset_lim H O hn m.id ⟨2, m.bal, m.bal, m.ins.cmd, m.ins.att⟩
      refine ⟨true, lim_fun fun17 rfl (by simp) rfl ?_⟩
      delta cd17
      simp -implicitDefEqProofs -dsimp (maxSteps := 300000) only [go_sem, wp_RD, postC_path2, Nat.reduceDiv, H.obj, e1, e2, eq_false c1, eq_true v, eq_false v0, eq_false c3, e6, e5]
      first | rfl | exact ⟨rfl, rfl⟩
    · have v0 : ¬ m.kind = 0 := by omega
      have v2 : ¬ m.kind = 2 := by omega
      rw [if_neg v0, if_neg v2]
      have e5 := rset_lim H O hn m.id { getB b m.id with pro := m.bal }
      refine ⟨true, lim_fun fun17 rfl (by simp) rfl ?_⟩
      delta cd17
      simp -implicitDefEqProofs -dsimp (maxSteps := 300000) only [go_sem, wp_RD, postC_path2, Nat.reduceDiv, H.obj, e1, e2, eq_false c1, eq_true v, eq_false v0, eq_false v2, eq_false c3, e6, e5]
      first | rfl | exact ⟨rfl, rfl⟩
end Go.DS

/-
  Walks: the law AcceptHears.
-/
namespace Go.DS
open Go Go.Proofs
set_option maxRecDepth 100000
set_option linter.unusedVariables false
set_option linter.unusedSimpArgs false
def cd3 : Cd := .seq (R [c0 4 (.new false (.s 1)), cb 6 (.tk (.c (kb false)))] [0, 2, 4, 38]) (.seq (R [cb 20 (.call none (.c (kf 11)) []), cb 7 (.tk (.s 20))] [0, 2, 4, 7, 38]) (.seq (.seq (R [cb 21 (.mv (.s 7)), cb 22 (.un .not (.s 21))] [0, 2, 4, 7, 22, 38]) (.ite (.s 22) (.seq (R [cb 6 (.tk (.c (kb false)))] [4, 6, 38]) (.ret)) (.skip))) (.seq (.seq (R [c0 23 (.mv (.s 2)), cb 24 (.call none (.c (kf 12)) [(.s 23)]), cb 25 (.mv (.s 24)), cg 26 25 false (.mov 1 (.s 4)), cg 27 25 false (.ld false 3 (.s 26)), cg 28 25 false (.len 1 (.s 27)), ch 29 25 false (.bin .gtr .any (.s 28) (.c (ki .i64 40))), cb 30 (.pick (.s 25) (.c (kb true)) (.s 29))] [0, 2, 4, 7, 30, 38]) (.ite (.s 30) (.seq (R [cb 31 (.mv (.s 7)), cb 6 (.tk (.s 31))] [4, 6, 38]) (.ret)) (.skip))) (.seq (R [c0 32 (.mv (.s 0)), c0 33 (.ld true 2 (.s 4)), c0 34 (.call none (.c (kf 13)) [(.s 32), (.s 33)]), c0 8 (.tk (.s 34))] [0, 2, 4, 7, 8, 38]) (.seq (R [c0 35 (.mv (.s 0)), c0 36 (.ld true 2 (.s 4)), c0 37 (.bld [ki .i64 0, ki .i64 0, kz 1, kz 18] [(0, 1, (.s 35)), (1, 2, (.s 36))]), c0 38 (.new true (.s 37)), c0 9 (.tk (.s 38))] [2, 4, 7, 8, 9, 38]) (.seq (.seq (R [c0 10 (.tk (.c (ki .i64 0)))] [2, 4, 7, 8, 9, 10, 38]) (.block 0 (LP [2, 4, 7, 8, 9, 10, 38] (.seq (.seq (R [c0 39 (.mv (.s 10)), c0 40 (.mv (.s 2)), c0 41 (.len 1 (.s 40)), cb 42 (.bin .lss .any (.s 39) (.s 41))] [2, 4, 7, 8, 9, 10, 38, 42]) (.ite (.s 42) (.skip) (.exit 0))) (.seq (.block 1 (.seq (R [c0 45 (.mv (.s 9)), c0 46 (.mv (.s 2)), c0 47 (.mv (.s 10)), c0 48 (.ixp 27 (.s 46) (.s 47)), c0 49 (.ld true 27 (.s 48)), cb 50 (.call none (.c (kf 14)) [(.s 45), (.s 49)]), cb 11 (.tk (.s 50))] [2, 4, 7, 8, 9, 10, 11, 38]) (.seq (.seq (R [c0 51 (.mv (.s 8)), c0 52 (.mv (.s 2)), c0 53 (.mv (.s 10)), c0 54 (.ixp 27 (.s 52) (.s 53)), c0 55 (.ld true 27 (.s 54)), cb 56 (.call none (.c (kf 15)) [(.s 51), (.s 55)]), cb 57 (.mv (.s 11)), cb 58 (.bin .neq .bool (.s 56) (.s 57))] [2, 4, 7, 8, 9, 10, 38, 58]) (.ite (.s 58) (.seq (R [cb 6 (.tk (.c (kb false)))] [4, 6, 38]) (.ret)) (.skip))) (.seq (R [c0 59 (.mv (.s 8)), c0 60 (.mv (.s 2)), c0 61 (.mv (.s 10)), c0 62 (.ixp 27 (.s 60) (.s 61)), c0 63 (.ld true 27 (.s 62)), c0 64 (.call none (.c (kf 16)) [(.s 59), (.s 63)]), c0 12 (.tk (.s 64))] [2, 4, 7, 8, 9, 10, 12, 38]) (.seq (R [c0 65 (.mv (.s 9)), c0 66 (.mv (.s 2)), c0 67 (.mv (.s 10)), c0 68 (.ixp 27 (.s 66) (.s 67)), c0 69 (.ld true 27 (.s 68)), c0 70 (.call none (.c (kf 17)) [(.s 65), (.s 69)]), c0 13 (.tk (.s 70))] [2, 4, 7, 8, 9, 10, 12, 13, 38]) (.seq (R [c0 71 (.mv (.s 12)), c0 72 (.mv (.s 13)), cb 73 (.call none (.c (kf 18)) [(.s 71), (.s 72)]), cb 14 (.tk (.s 73))] [2, 4, 7, 8, 9, 10, 14, 38]) (.seq (RD [cd (some 74) true none (.mv (.s 14)) false false [14], cd (some 75) true none (.un .not (.s 74)) false false [74], cd (some 76) true none (.mv (.s 75)) false false [75], cd (some 77) false (some (76, false)) (.mv (.s 8)) false false [8], cd (some 78) false (some (76, false)) (.mv (.s 2)) false false [2], cd (some 79) false (some (76, false)) (.mv (.s 10)) false false [10], cd (some 80) false (some (76, false)) (.ixp 27 (.s 78) (.s 79)) false false [78, 79], cd (some 81) false (some (76, false)) (.mov 3 (.s 80)) false false [80], cd (some 82) false (some (76, false)) (.ld true 3 (.s 81)) false false [81], cd (some 83) false (some (76, false)) (.call none (.c (kf 20)) [(.s 77), (.s 82)]) false false [77, 82], cd (some 84) false (some (76, false)) (.mv (.s 9)) false false [9], cd (some 85) false (some (76, false)) (.mv (.s 2)) false false [2], cd (some 86) false (some (76, false)) (.mv (.s 10)) false false [10], cd (some 87) false (some (76, false)) (.ixp 27 (.s 85) (.s 86)) false false [85, 86], cd (some 88) false (some (76, false)) (.mov 3 (.s 87)) false false [87], cd (some 89) false (some (76, false)) (.ld true 3 (.s 88)) false false [88], cd (some 90) false (some (76, false)) (.call none (.c (kf 21)) [(.s 84), (.s 89)]) false false [84, 89], cd (some 91) true (some (76, false)) (.call none (.c (kf 19)) [(.s 83), (.s 90)]) false false [83, 90], cd (some 92) true (some (76, false)) (.un .not (.s 91)) false false [91], cd (some 93) true none (.pick (.s 76) (.c (kb true)) (.s 92)) false false [76, 92]] [2, 4, 7, 8, 9, 10, 38, 93] [176, 152]) (.ite (.s 93) (.seq (R [cb 6 (.tk (.c (kb false)))] [4, 6, 38]) (.ret)) (.skip))))))))) (R [c0 43 (.mv (.s 10)), c0 44 (.bin .add .any (.s 43) (.c (ki .i64 1))), c0 10 (.tk (.s 44))] [2, 4, 7, 8, 9, 10, 38])))))) (.seq (R [c0 94 (.mv (.s 8)), c0 95 (.call none (.c (kf 22)) [(.s 94)]), c0 15 (.tk (.s 95))] [4, 7, 8, 9, 15, 38]) (.seq (R [c0 96 (.mv (.s 8)), c0 97 (.call none (.c (kf 23)) [(.s 96)]), c0 16 (.tk (.s 97))] [4, 7, 9, 15, 16, 38]) (.seq (R [c0 98 (.mv (.s 9)), c0 99 (.call none (.c (kf 24)) [(.s 98)]), c0 17 (.tk (.s 99))] [4, 7, 9, 15, 16, 17, 38]) (.seq (.seq (R [c0 100 (.mv (.s 15)), c0 101 (.len 1 (.s 100)), c0 102 (.mv (.s 9)), c0 103 (.mov 0 (.s 102)), c0 104 (.mov 3 (.s 103)), c0 105 (.ld false 20 (.s 104)), c0 106 (.len 1 (.s 105)), cb 107 (.bin .neq .any (.s 101) (.s 106)), cb 108 (.mv (.s 107)), cg 109 108 false (.mv (.s 16)), cg 110 108 false (.len 1 (.s 109)), cg 111 108 false (.mv (.s 17)), cg 112 108 false (.len 1 (.s 111)), ch 113 108 false (.bin .neq .any (.s 110) (.s 112)), cb 114 (.pick (.s 108) (.c (kb true)) (.s 113))] [4, 7, 9, 15, 16, 17, 38, 114]) (.ite (.s 114) (.seq (R [cb 6 (.tk (.c (kb false)))] [4, 6, 38]) (.ret)) (.skip))) (.seq (.seq (R [c0 18 (.tk (.c (ki .i64 0)))] [4, 7, 9, 15, 16, 17, 18, 38]) (.block 2 (LP [4, 7, 9, 15, 16, 17, 18, 38] (.seq (.seq (R [c0 115 (.mv (.s 18)), c0 116 (.mv (.s 15)), c0 117 (.len 1 (.s 116)), cb 118 (.bin .lss .any (.s 115) (.s 117))] [4, 7, 9, 15, 16, 17, 18, 38, 118]) (.ite (.s 118) (.skip) (.exit 2))) (.seq (.block 3 (.seq (RD [cd (some 121) false none (.mv (.s 15)) false false [15], cd (some 122) false none (.mv (.s 18)) false false [18], cd (some 123) false none (.ixp 3 (.s 121) (.s 122)) false false [121, 122], cd (some 124) false none (.ld true 3 (.s 123)) false false [123], cd (some 125) false none (.mv (.s 9)) false false [9], cd (some 126) false none (.mov 0 (.s 125)) false false [125], cd (some 127) false none (.mov 3 (.s 126)) false false [126], cd (some 128) false none (.ld false 20 (.s 127)) false false [127], cd (some 129) false none (.mv (.s 18)) false false [18], cd (some 130) false none (.ixp 18 (.s 128) (.s 129)) false false [128, 129], cd (some 131) false none (.mov 0 (.s 130)) false false [130], cd (some 132) false none (.ld true 3 (.s 131)) false false [131], cd (some 133) true none (.bin .neq (.flat [0, 0, 0]) (.s 124) (.s 132)) false false [124, 132]] [4, 7, 9, 15, 16, 17, 18, 38, 133] []) (.ite (.s 133) (.seq (R [cb 6 (.tk (.c (kb false)))] [4, 6, 38]) (.ret)) (.skip)))) (R [c0 119 (.mv (.s 18)), c0 120 (.bin .add .any (.s 119) (.c (ki .i64 1))), c0 18 (.tk (.s 120))] [4, 7, 9, 15, 16, 17, 18, 38])))))) (.seq (.seq (R [c0 19 (.tk (.c (ki .i64 0)))] [4, 7, 16, 17, 19, 38]) (.block 4 (LP [4, 7, 16, 17, 19, 38] (.seq (.seq (R [c0 134 (.mv (.s 19)), c0 135 (.mv (.s 16)), c0 136 (.len 1 (.s 135)), cb 137 (.bin .lss .any (.s 134) (.s 136))] [4, 7, 16, 17, 19, 38, 137]) (.ite (.s 137) (.skip) (.exit 4))) (.seq (.block 5 (.seq (RD (cd (some 140) false none (.mv (.s 16)) false false [16] :: cd (some 141) false none (.mv (.s 19)) false false [19] :: cd (some 142) false none (.ixp 13 (.s 140) (.s 141)) false false [140, 141] :: cd (some 143) false none (.mov 0 (.s 142)) false false [142] :: cd (some 144) false none (.ld true 3 (.s 143)) false false [143] :: cd (some 145) false none (.mv (.s 17)) false false [17] :: cd (some 146) false none (.mv (.s 19)) false false [19] :: cd (some 147) false none (.ixp 13 (.s 145) (.s 146)) false false [145, 146] :: cd (some 148) false none (.mov 0 (.s 147)) false false [147] :: cd (some 149) false none (.ld true 3 (.s 148)) false false [148] :: cd (some 150) true none (.bin .neq (.flat [0, 0, 0]) (.s 144) (.s 149)) false false [144, 149] :: cd (some 151) true none (.mv (.s 150)) false false [150] :: cd (some 152) false (some (151, false)) (.mv (.s 16)) false false [16] :: cd (some 153) false (some (151, false)) (.mv (.s 19)) false false [19] :: cd (some 154) false (some (151, false)) (.ixp 13 (.s 152) (.s 153)) false false [152, 153] :: cd (some 155) false (some (151, false)) (.mov 3 (.s 154)) false false [154] :: cd (some 156) false (some (151, false)) (.ld true 8 (.s 155)) false false [155] :: cd (some 157) false (some (151, false)) (.mv (.s 17)) false false [17] :: cd (some 158) false (some (151, false)) (.mv (.s 19)) false false [19] :: cd (some 159) false (some (151, false)) (.ixp 13 (.s 157) (.s 158)) false false [157, 158] :: cd (some 160) false (some (151, false)) (.mov 3 (.s 159)) false false [159] :: cd (some 161) false (some (151, false)) (.ld true 8 (.s 160)) false false [160] :: cd (some 162) true (some (151, false)) (.bin .neq (.flat [0, 0, 0, 2, 2, 0, 0, 0]) (.s 156) (.s 161)) false false [156, 161] :: cd (some 163) true none (.pick (.s 151) (.c (kb true)) (.s 162)) false false [151, 162] :: cd (some 164) true none (.mv (.s 163)) false false [163] :: cd (some 165) false (some (164, false)) (.mv (.s 16)) false false [16] :: cd (some 166) false (some (164, false)) (.mv (.s 19)) false false [19] :: cd (some 167) false (some (164, false)) (.ixp 13 (.s 165) (.s 166)) false false [165, 166] :: cd (some 168) false (some (164, false)) (.mov 11 (.s 167)) false false [167] :: cd (some 169) false (some (164, false)) (.ld true 2 (.s 168)) false false [168] :: cd (some 170) false (some (164, false)) (.mv (.s 17)) false false [17] :: cd (some 171) false (some (164, false)) (.mv (.s 19)) false false [19] :: cd (some 172) false (some (164, false)) (.ixp 13 (.s 170) (.s 171)) false false [170, 171] :: cd (some 173) false (some (164, false)) (.mov 11 (.s 172)) false false [172] :: cd (some 174) false (some (164, false)) (.ld true 2 (.s 173)) false false [173] :: cd (some 175) true (some (164, false)) (.call none (.c (kf 25)) [(.s 169), (.s 174)]) false false [169, 174] :: cd (some 176) true (some (164, false)) (.un .not (.s 175)) false false [175] :: cd (some 177) true none (.pick (.s 164) (.c (kb true)) (.s 176)) false false [164, 176] :: []) [4, 7, 16, 17, 19, 38, 177] []) (.ite (.s 177) (.seq (R [cb 6 (.tk (.c (kb false)))] [4, 6, 38]) (.ret)) (.skip)))) (R [c0 138 (.mv (.s 19)), c0 139 (.bin .add .any (.s 138) (.c (ki .i64 1))), c0 19 (.tk (.s 139))] [4, 7, 16, 17, 19, 38])))))) (.seq (R [cb 178 (.mv (.s 7)), cb 6 (.tk (.s 178))] [4, 6, 38]) (.ret))))))))))))))
theorem fun3 : Fun Tryz.prog cfg 3 179 cd3 [.s 6] := ⟨rfl, Tryz.f3, _, Tryz.func3, rfl, rfl, by kernel_rfl, by kernel_rfl⟩
@[go_sem] theorem ok3 : calleeOK Tryz.prog 3 = true := by kernel_rfl
@[go_sem] theorem ex3 : (cfg.ext 3).isSome = false := rfl
variable {h : DHeap}
abbrev HX (a r : Bk) (ow : Bool) : DHeap := [bookM a, .cells [vi a.node, vi a.con.epoch, .list false 1 (vnums a.con.nodes), .mp 0], objR ow r]
theorem atXa (a r : Bk) (ow : Bool) : AtB (HX a r ow) 1 0 a := ⟨rfl, rfl⟩
theorem atXr (a r : Bk) (ow : Bool) : AtR (HX a r ow) 2 ow r := ⟨rfl⟩
theorem hbX (a r : Bk) (ow : Bool) : HBb (HX a r ow) := by
  have h1 := below_book (HX a r ow).length a
  have h3 : belowO (HX a r ow).length (.cells [vi a.node, vi a.con.epoch, .list false 1 (vnums a.con.nodes), .mp 0]) = true := by
    simp only [belowO, below, below.all, below_vnums, List.all_cons, List.all_nil, Bool.and_true, Bool.true_and]
    rfl
  have h4 : belowO (HX a r ow).length (objR ow r) = true := by
    simp only [belowO, below, below.all, below_vnums, below_ones, List.all_cons, List.all_nil, Bool.and_true, Bool.true_and]
  unfold HBb
  rw [List.all_cons, h1, List.all_cons, h3, List.all_cons, h4]
  rfl
theorem setXa {a a' r : Bk} {ow : Bool} (h1 : a'.con = a.con) (h2 : a'.node = a.node) : (HX a r ow).set 0 (bookM a') = HX a' r ow := by
  show [bookM a', _, _] = [bookM a', _, _]
  rw [h1, h2]
theorem setXr (a r r' : Bk) (ow ow' : Bool) : (HX a r ow).set 2 (objR ow' r') = HX a r' ow' := rfl
theorem hearX_lim {n : Nat} {a : Bk} (r : Bk) (ow : Bool) (O : BkOK n a) (hn : n ≤ 99999) (hc : a.con.nodes.length ≤ 1048576) (m : Mes) (hm : MesOK m) :
    ∃ o, lim Tryz.prog cfg 16 [.ptr 1 0, mesD m] (HX a r ow) = some (.list o 27 (mess (hearB a m).1), HX (hearB a m).2 r ow) := by
  obtain ⟨o, e, h⟩ := hear_lim (atXa a r ow) O (hbX a r ow) hn hc m hm
  rw [setXa (hear_con a m).1 (hear_con a m).2] at e
  exact ⟨o, e⟩
theorem rhearX_lim {n : Nat} (a : Bk) {r : Bk} (ow : Bool) (O : BkOK n r) (hn : n ≤ 99999) (hc : r.con.nodes.length ≤ 1048576) (m : Mes) (hm : MesOK m) :
    ∃ o', lim Tryz.prog cfg 17 [.ptr 2 0, mesD m] (HX a r ow) = some (.list true 27 (mess (hearB r m).1), HX a (hearB r m).2 o') := by
  obtain ⟨o', e⟩ := rhear_lim (atXr a r ow) O hn hc m hm
  rw [setXr] at e
  exact ⟨o', e⟩
theorem kno_at {l : List Kno} {k : Nat} (hk : k < l.length) (N : List DV → Prop) : IdxP (kns l) (Nf (k : Int)) N = N [vi l[k].id.e, vi l[k].id.n, vi l[k].id.k, vi l[k].cmd.client, vi l[k].cmd.seq, vi l[k].cmd.op, vs l[k].cmd.path, vs l[k].cmd.value, vi l[k].cmd.version, vi l[k].cmd.a, vi l[k].cmd.b, vi l[k].att.seq, .list false 3 (idr l[k].att.deps)] := knr_at hk N
set_option maxHeartbeats 8000000 in
theorem acceptHears_lim (node : Int) (c : Con) (l : List Mes) : lim Tryz.prog cfg 3 [vi node, .agg [vi c.epoch, .list false 1 (vnums c.nodes)], .list false 27 (mess l)] h = some (vb true, h) := by
  refine lim_funp fun3 rfl (by simp) (by simp [heapFree, heapFree.all, free_vnums, free_mess, free_idr, free_pes, free_pss]) rfl ?_
  delta cd3
  have w := works15_lim (h := [])
  have o1 := over15_lim (h := []) false l
  cases d1 : overM l with
  | true => rw [d1] at o1; simp -implicitDefEqProofs -dsimp (maxSteps := 300000) only [go_sem, w, o1]
  | false =>
  rw [d1] at o1
  by_cases d3 : 40 < c.nodes.length
  · have d3' : (40 : Int) < (c.nodes.length : Int) := by omega
    simp -implicitDefEqProofs -dsimp (maxSteps := 300000) only [go_sem, w, o1, d3']
  have d3' : ¬ (40 : Int) < (c.nodes.length : Int) := by omega
  obtain ⟨hl, hl2⟩ := overM_ok d1
  have n1 := newN_lim node c (by omega)
  simp -implicitDefEqProofs -dsimp (maxSteps := 300000) only [go_sem, w, o1, d3', n1]
  have O : ∀ k, k ≤ 40 → BkOK 40 (hearAll ⟨node, c, []⟩ (l.take k)) := fun k hk =>
    (hearAll_ok (bkOK_new node c 0) (l.take k) fun x hx => hl2 x (List.mem_of_mem_take hx)).mono (by rw [List.length_take]; omega)
  have C : ∀ k, (hearAll ⟨node, c, []⟩ (l.take k)).con = c ∧ (hearAll ⟨node, c, []⟩ (l.take k)).node = node := fun k => hearAll_con ⟨node, c, []⟩ (l.take k)
  have hz : objR false ⟨node, c, []⟩ = .cells [vi node, vi c.epoch, .list false 1 (vnums c.nodes), .list false 18 []] := by
    have e : idsB ⟨node, c, []⟩ = [] := by simp [idsB, keys, sortD]
    show DObj.cells [vi node, vi c.epoch, .list false 1 (vnums c.nodes), .list false 18 (ones (getB ⟨node, c, []⟩) (idsB ⟨node, c, []⟩))] = _
    rw [e]
    rfl
  refine wp_for (σ := Nat × Bool) (fun s => [(2, .list false 27 (mess l)), (4, .box [vi c.epoch, .list false 1 (vnums c.nodes)]), (7, vb true), (8, .ptr 1 0), (9, .ptr 2 0), (10, vi (s.1 : Nat)), (38, .ptr 2 0)]) (fun s => HX (hearAll ⟨node, c, []⟩ (l.take s.1)) (hearAll ⟨node, c, []⟩ (l.take s.1)) s.2) (fun s => l.length - s.1) (fun s => s.1 ≤ l.length) (0, false) (Nat.zero_le _) rfl (by show _ = [bookM ⟨node, c, []⟩, .cells [vi node, vi c.epoch, .list false 1 (vnums c.nodes), .mp 0], objR false ⟨node, c, []⟩]; rw [hz]) ?_
  rintro ⟨k, ow⟩ hk N hN
  dsimp only at hk
  by_cases hlt : k < l.length
  · have h1 : (k : Int) < (l.length : Int) := by omega
    have q := fun N => mess_at hlt N
    have mk := hl2 _ (List.getElem_mem hlt)
    have hs : hearAll ⟨node, c, []⟩ (l.take (k + 1)) = (hearB (hearAll ⟨node, c, []⟩ (l.take k)) l[k]).2 := by rw [List.take_succ_eq_append_getElem hlt, hearAll_snoc]
    have Ok := O k (by omega)
    have Ok2 := O (k + 1) (by omega)
    have Ck := (C k).1
    have hN2 := fun ow => hN (k + 1, ow)
    dsimp only at hN2
    rw [hs] at hN2 Ok2
    clear hN O C hs n1 o1 w d1
    dsimp only
    generalize hearAll ⟨node, c, []⟩ (l.take k) = a at *
    have r1 := right_lim (atXa a a ow) (by rw [Ck]; omega) l[k] (by have := mk.deps; omega)
    have r2 := rright_lim15 (atXr a a ow) (by rw [Ck]; omega) l[k] (by have := mk.deps; omega)
    obtain ⟨o, e1⟩ := hearX_lim a ow Ok (by omega) (by rw [Ck]; omega) l[k] mk
    obtain ⟨ow2, e2⟩ := rhearX_lim (hearB a l[k]).2 ow Ok (by omega) (by rw [Ck]; omega) l[k] mk
    have g1 := get_lim (atXa (hearB a l[k]).2 (hearB a l[k]).2 ow2) l[k].id (by have := get_small Ok2 l[k].id; omega)
    have g2 := rget_lim (atXr (hearB a l[k]).2 (hearB a l[k]).2 ow2) Ok2 (by omega) l[k].id
    have e3 := fun o1 o2 => msgs_self (h := HX (hearB a l[k]).2 (hearB a l[k]).2 ow2) o1 o2 (hearB a l[k]).1 (by have := hear_len a l[k]; omega) (fun o ho => by have := hear_small Ok mk o ho; omega)
    have ss := same_self (h := HX (hearB a l[k]).2 (hearB a l[k]).2 ow2) (getB (hearB a l[k]).2 l[k].id) (by have := get_small Ok2 l[k].id; omega)
    have hN3 := hN2 ow2
    clear hN2 Ok Ok2
    generalize HX (hearB a l[k]).2 (hearB a l[k]).2 ow2 = H3 at *
    generalize HX (hearB a l[k]).2 a ow = H2 at *
    generalize HX a a ow = H1 at *
    generalize (hearB a l[k]).1 = ms at *
    generalize getB (hearB a l[k]).2 l[k].id = gi at *
    cases hr : rightB a l[k] <;> rw [hr] at r1 r2 <;> cases o
    all_goals
      simp -implicitDefEqProofs -dsimp (maxSteps := 300000) only [go_sem, wp_RD, postC_path2, Nat.reduceDiv, ↓q, h1, r1, r2, e1, e2, e3, g1, g2, ss]
      refine hN3 _ (by omega) (by omega) ?_
      simp -implicitDefEqProofs -dsimp (maxSteps := 300000) only [go_sem, wrap_succ (show k < 9223372036854775807 by omega)]
  have h1 : ¬ (k : Int) < (l.length : Int) := by omega
  have Ok := O k (by omega)
  clear hN n1 o1 w d1
  dsimp only
  generalize hearAll ⟨node, c, []⟩ (l.take k) = a at *
  have f1 := ids_lim (atXa a a ow) Ok (by omega)
  have f2 := known_lim (atXa a a ow) Ok (by omega)
  have f3 := rknown_lim (atXr a a ow) Ok (by omega)
  have f4 := (atXr a a ow).obj
  have hL : (idsB a).length ≤ 40 := by rw [idsB_len]; exact Ok.len
  have hK : (knownB a).length ≤ 40 := by have := knownB_len a; have := Ok.len; omega
  have kd : ∀ x ∈ knownB a, x.att.deps.length ≤ 1000000 := fun x hx => by
    obtain ⟨z, hz, q1, q2⟩ := knownB_ok Ok x hx
    have := hz.deps
    rw [q2]
    dsimp only at *
    omega
  generalize hH : HX a a ow = H1 at *
  clear hH O C
  cases ow
  all_goals
    simp -implicitDefEqProofs -dsimp (maxSteps := 300000) only [go_sem, h1, f1, f2, f3, f4]
    refine wp_for (σ := Nat) (fun k => [(4, .box [vi c.epoch, .list false 1 (vnums c.nodes)]), (7, vb true), (9, .ptr 2 0), (15, .list true 3 (idr (idsB a))), (16, .list true 13 (kns (knownB a))), (17, .list true 13 (kns (knownB a))), (18, vi (k : Nat)), (38, .ptr 2 0)]) (fun _ => H1) (fun k => (idsB a).length - k) (fun k => k ≤ (idsB a).length) 0 (Nat.zero_le _) rfl rfl ?_
    rintro j hj M hM
    by_cases gl : j < (idsB a).length
    · have g1 : (j : Int) < ((idsB a).length : Int) := by omega
      have q1 := fun N => idr_at gl N
      have q2 := fun N => one_at (f := getB a) gl N
      simp -implicitDefEqProofs -dsimp (maxSteps := 300000) only [go_sem, wp_RD, postC_path2, Nat.reduceDiv, ↓q1, ↓q2, g1, f4]
      refine hM (j + 1) _ (by omega) (by omega) ?_
      simp -implicitDefEqProofs -dsimp (maxSteps := 300000) only [go_sem, wrap_succ (show j < 9223372036854775807 by omega)]
    have g1 : ¬ (j : Int) < ((idsB a).length : Int) := by omega
    simp -implicitDefEqProofs -dsimp (maxSteps := 300000) only [go_sem, g1]
    clear hM
    refine wp_for (σ := Nat) (fun k => [(4, .box [vi c.epoch, .list false 1 (vnums c.nodes)]), (7, vb true), (16, .list true 13 (kns (knownB a))), (17, .list true 13 (kns (knownB a))), (19, vi (k : Nat)), (38, .ptr 2 0)]) (fun _ => H1) (fun k => (knownB a).length - k) (fun k => k ≤ (knownB a).length) 0 (Nat.zero_le _) rfl rfl ?_
    rintro i hi M hM
    by_cases gk : i < (knownB a).length
    · have g2 : (i : Int) < ((knownB a).length : Int) := by omega
      have q1 := fun N => kno_at gk N
      have sa := rsameA_self (h := H1) (knownB a)[i].att (kd _ (List.getElem_mem gk))
      simp -implicitDefEqProofs -dsimp (maxSteps := 300000) only [go_sem, wp_RD, postC_path2, Nat.reduceDiv, ↓q1, g2, sa]
      refine hM (i + 1) _ (by omega) (by omega) ?_
      simp -implicitDefEqProofs -dsimp (maxSteps := 300000) only [go_sem, wrap_succ (show i < 9223372036854775807 by omega)]
    have g2 : ¬ (i : Int) < ((knownB a).length : Int) := by omega
    simp -implicitDefEqProofs -dsimp (maxSteps := 300000) only [go_sem, g2]
end Go.DS

/-
  The row AcceptHears.
-/
namespace Go.Proofs.YtfmhhincdemhdaaGreat.acceptHears
open Go.ChangeShapes Go.WideShapes Go.ChangeAt Go.RowKit
open Go.ChangeMaps (open_string shut_string)
open Go.DS
set_option linter.unusedVariables false
set_option linter.unusedSimpArgs false

set_option maxRecDepth 100000 in
theorem contract (H : Type) (enc : TypeId × Value → H) (W : World) (base : Nat) (args : Array Value) (ds gs : List (DataW H)) (before : List MemPlace)
    (hval0 : ∀ (j : Nat) t v, Tryz.f3.params[j]? = some t → args[j]? = some v → Value.okWide Tryz.prog W .any base t v)
    (hW : DataW.Whole enc Tryz.prog Tryz.f3.params.toList Rows.acceptHearsSpec.vars false W args.toList ds gs before) (hk : Rows.uptoSmall H (ds ++ gs) = true) :
    Calls Tryz.prog 3 args W fun e W' => ∃ v, e = .returned v ∧ Rows.acceptHearsSpec.post enc Tryz.prog Tryz.f3 false true false false W args v W' := by
  have hval : ∀ (j : Nat) t v, Tryz.f3.params[j]? = some t → args[j]? = some v → Value.okWide Tryz.prog W .any base t v := hval0
  have hW' := hW
  obtain ⟨p, q, hA0, hV, rfl, hfz, hnd⟩ := hW
  have hA : DataW.TrodAll enc Tryz.prog W 0 (fun _ => true) true Tryz.f3.params.toList args.toList ds p := hA0
  rw [Tryz.params3] at hA hval
  obtain ⟨v0, vs0, d0, ds0, p0, q0, hargs, rfl, rfl, h0, r0⟩ := trodAll_cons hA
  obtain ⟨v1, vs1, d1, ds1, p1, q1, rfl, rfl, rfl, h1, r1⟩ := trodAll_cons r0
  obtain ⟨v2, vs2, d2, ds2, p2, q2, rfl, rfl, rfl, h2, r2⟩ := trodAll_cons r1
  obtain ⟨rfl, rfl, rfl⟩ := trodAll_nil r2
  obtain rfl : args = #[v0, v1, v2] := by cases args; simp_all
  obtain ⟨rfl, rfl⟩ := trodVars_none hV
  have lt0 : ∀ x ∈ p0, x.block < W.heap.size := by obtain ⟨m, hm⟩ := h0; exact DataW.trod_lt m _ _ _ hm
  have k0 := h0
  obtain ⟨a0, rfl, rfl, rfl, y0⟩ := open_int Tryz.underlying3 (hval 0 3 v0 rfl rfl) h0
  have lt1 : ∀ x ∈ p1, x.block < W.heap.size := by obtain ⟨m, hm⟩ := h1; exact DataW.trod_lt m _ _ _ hm
  have k1 := h1
  obtain ⟨a1, y1, b1⟩ := arg_con (B := 1048575) (hval 1 24 v1 rfl rfl) h1 (by have hb := of_decide_eq_true hk; simp only [Rows.uptoBulkAll, List.append_nil, List.cons_append, List.nil_append] at hb; omega)
  have lt2 : ∀ x ∈ p2, x.block < W.heap.size := by obtain ⟨m, hm⟩ := h2; exact DataW.trod_lt m _ _ _ hm
  have k2 := h2
  obtain ⟨a2, y2, b2⟩ := arg_mess (B := 1048575) (hval 2 25 v2 rfl rfl) h2 (by have hb := of_decide_eq_true hk; simp only [Rows.uptoBulkAll, List.append_nil, List.cons_append, List.nil_append] at hb; omega)
  clear hA0 hval0
  have hb := of_decide_eq_true hk
  simp only [Rows.uptoBulkAll, Rows.uptoBulk, List.append_nil] at hb
  refine (Go.DS.start ext_ok (acceptHears_lim a0 a1 a2) W (vs := #[.int .i64 a0, v1, v2]) (.cons (.sc _) (.cons (y1) (.cons (y2) (.nil _))))).mono fun e W' ⟨he, bel⟩ => ?_
  subst he
  exact ⟨_, rfl, _, _, _, [], _, [], hW', trodAll_mk1 (shut_bool Tryz.underlying4 _), (trodAll_cons_mk (Below.trod laidOut' (by kernel_rfl) (of_decide_eq_true (by kernel_rfl)) k0 bel lt0) (trodAll_cons_mk (Below.trod laidOut' (by kernel_rfl) (of_decide_eq_true (by kernel_rfl)) k1 bel lt1) (trodAll_cons_mk (Below.trod laidOut' (by kernel_rfl) (of_decide_eq_true (by kernel_rfl)) k2 bel lt2) trodAll_mk0))), rfl, bel.frame _, fun h => by cases h⟩

set_option maxRecDepth 100000 in
theorem lifted (os : Os) (started : os.Started) (H : Type) (enc : TypeId × Value → H) (F : Stop.Interp) :
    ReturnsInHanded {} Tryz.checked os 3 .any ((Rows.OpenSpec.upto Rows.acceptHearsSpec).pre6 enc Tryz.prog Tryz.f3 Rows.acceptHearsUptoRow.domain false) (((Rows.OpenSpec.upto Rows.acceptHearsSpec).at F).post enc Tryz.prog Tryz.f3 false true false false) := by
  refine returnsInHanded_of_cond (C := Tryz.checked) (s := Rows.OpenSpec.upto Rows.acceptHearsSpec) (k := Rows.uptoSmall) rfl own' started (by kernel_rfl) Tryz.func3
    (OpenSpec.witness (enc := enc) (C := Tryz.checked) (s := Rows.OpenSpec.upto Rows.acceptHearsSpec) (k := Rows.uptoSmall) rfl false ⟨#[], #[.int .i64 0, .agg #[.int .i64 0, .slice none 0 0], .slice none 0 0], []⟩ 8 (by kernel_rfl) (by kernel_rfl) (by kernel_rfl)
      (x := ([.lit (.int .i64 0), .agg [.lit (.int .i64 0), .nil], .nil], [], [])) (by kernel_rfl) rfl (by kernel_rfl)) ?_
  intro W base args ds gs before hval hW _ hk _
  exact contract H enc W base args ds gs before hval hW hk

theorem over : Rows.acceptHearsUptoRow.holds Tryz.pinned (Rows.OpenSpec.upto Rows.acceptHearsSpec) :=
  OpenClaim.holds_of_cond 3 Tryz.f3 rfl rfl rfl rfl rfl rfl rfl ⟨rfl, rfl, rfl, rfl, rfl⟩ rfl rfl rfl rfl rfl (by kernel_rfl) Tryz.func3 (by kernel_rfl)
    (of_decide_eq_true (by kernel_rfl)) (by unfold Func.isWrapper; first | (rw [if_pos (by decide +kernel)]; kernel_rfl) | (rw [if_neg (by decide +kernel)]; exact ⟨rfl, rfl⟩))
    (fun os started H enc _ F => lifted os started H enc F)

theorem proved : Rows.AcceptHearsUptoSaid := over
#print axioms proved
end Go.Proofs.YtfmhhincdemhdaaGreat.acceptHears
namespace Go.Proofs.YtfmhhincdemhdaaGreat
theorem acceptHears_holds : Rows.AcceptHearsUptoSaid := acceptHears.proved
end Go.Proofs.YtfmhhincdemhdaaGreat
