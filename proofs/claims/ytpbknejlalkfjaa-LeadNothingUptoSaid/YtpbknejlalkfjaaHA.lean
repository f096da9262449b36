/-
  Walks: the reference's functions of paths.
-/
import Derived.Test.YtpbknejlalkfjaaH9
import Derived.Test.YtpbknejlalkfjaaRows
import Derived.WalkKit
import Derived.ProofKit
import Derived.Deep.Strs
import Derived.ChangeArms
import Derived.DataReads
set_option linter.unusedSimpArgs false
set_option linter.unusedVariables false
namespace Go.DS
open Go Go.Proofs
set_option maxRecDepth 100000
set_option linter.unusedVariables false
set_option linter.unusedSimpArgs false
variable {h : DHeap}
/-- Names, each with a slash ahead. -/
def flatP (l : List Str) : Str := l.flatMap fun s => 47 :: s
theorem flatP_join : ∀ (l : List Str), l ≠ [] → flatP l = 47 :: Lib.join l [47]
  | [], h => absurd rfl h
  | [a], _ => by simp [flatP, join_one]
  | a :: b :: l, _ => by
    have := flatP_join (b :: l) (by simp)
    rw [join_cons, ← this]
    simp [flatP]
theorem flatP_path {l : List Str} : (if flatP l = [] then [47] else flatP l) = pathOf l := by
  by_cases h : l = []
  · subst h; simp [flatP, pathOf, join_nil]
  · rw [flatP_join l h]; simp [pathOf]
theorem flatP_le (l : List Str) (h : ∀ s ∈ l, s.length ≤ 16) : (flatP l).length ≤ 17 * l.length := by
  induction l with
  | nil => simp [flatP]
  | cons a l ih =>
    have h1 := h a List.mem_cons_self
    have h2 := ih fun s hs => h s (List.mem_cons_of_mem _ hs)
    simp only [flatP, List.flatMap_cons, List.length_append, List.length_cons] at h2 ⊢
    omega
def glue (s : Str) : List Str → List Str
  | [] => []
  | x :: xs => (s ++ x) :: xs
theorem glue_nil (l : List Str) : glue [] l = l := by cases l <;> rfl
theorem sp_slash (r : Str) : sp (47 :: r) = [] :: sp r := by
  have h : aft (47 :: r) = 47 :: r := by simp [aft]
  rw [sp_cons h]; simp [seg]
theorem sp_char {c : UInt8} (hc : c ≠ 47) (r : Str) : sp (c :: r) = glue [c] (sp r) := by
  have h1 : aft (c :: r) = aft r := by simp [aft, hc]
  have h2 : seg (c :: r) = c :: seg r := by simp [seg, hc]
  rcases aft_cases r with h | ⟨r', h⟩
  · rw [sp_nil (h1.trans h), sp_nil h]; rfl
  · rw [sp_cons (h1.trans h), sp_cons h, h2]; rfl
theorem glue_glue (s : Str) (c : UInt8) (l : List Str) : glue s (glue [c] l) = glue (s ++ [c]) l := by
  cases l <;> simp [glue]
theorem cut_sizes (p : Str) : (cutP p).length ≤ p.length + 1 ∧ ∀ s ∈ cutP p, s.length ≤ p.length := by
  unfold cutP
  split
  · simp
  · have key : ∀ (n : Nat) (r : Str), r.length ≤ n → (sp r).length ≤ r.length + 1 ∧ ∀ s ∈ sp r, s.length ≤ r.length := by
      intro n
      induction n with
      | zero => intro r hr; have : r = [] := List.length_eq_zero_iff.1 (by omega); subst this; rw [sp_nil (by simp [aft])]; simp
      | succ n ih =>
        intro r hr
        have hse : (seg r).length + (aft r).length = r.length := by rw [← List.length_append, seg_aft]
        rcases aft_cases r with h | ⟨r', h⟩
        · rw [sp_nil h]; simp
        · rw [sp_cons h]
          rw [h] at hse
          simp only [List.length_cons] at hse ⊢
          obtain ⟨i1, i2⟩ := ih r' (by omega)
          refine ⟨by omega, fun s hs => ?_⟩
          rcases List.mem_cons.1 hs with rfl | hs
          · omega
          · have := i2 s hs; omega
    obtain ⟨k1, k2⟩ := key _ (p.drop 1) (Nat.le_refl _)
    simp only [List.length_drop] at k1 k2
    exact ⟨by omega, fun s hs => by have := k2 s hs; omega⟩
theorem depth_names (p : Str) : depthP p < 1 ↔ namesP p = [] := by
  unfold depthP namesP
  cases parse p with
  | none => simp
  | some l => cases l <;> simp; omega
theorem names_cut {p : Str} (h : ¬ namesP p = []) : cutP p = namesP p := by
  unfold namesP at *
  cases hq : parse p with
  | none => rw [hq] at h; simp at h
  | some l => rw [cut_some hq]; rfl
theorem cmpF_same {l m : List Str} (k : Nat) (hk : k ≤ l.length) (hj : l.take k = m.take k) : cmpF Lib.compareBytes l m = cmpF Lib.compareBytes (l.drop k) (m.drop k) := by
  induction k generalizing l m with
  | zero => simp
  | succ k ih =>
    match l, m, hk, hj with
    | [], _, hk, _ => simp at hk
    | a :: l, [], _, hj => simp at hj
    | a :: l, b :: m, hk, hj =>
      simp only [List.take_succ_cons, List.cons.injEq] at hj
      obtain ⟨rfl, hj⟩ := hj
      simp only [List.drop_succ_cons, cmpF]
      rw [if_neg (by simp [(cmpB_zero a a).2 rfl])]
      exact ih (by simpa using hk) hj
end Go.DS

/-
  Walks: the reference's functions of touch; the laws.
-/
namespace Go.DS
open Go Go.Proofs
set_option maxRecDepth 100000
set_option linter.unusedVariables false
set_option linter.unusedSimpArgs false
variable {h : DHeap}
theorem eqs_cel (c d : Cel) : eqs [2, 0] [.sc (.string (mkB c.1)), .sc (.int .u8 c.2.toNat)] [.sc (.string (mkB d.1)), .sc (.int .u8 d.2.toNat)] = some (decide (c = d)) := eqK_cel c d
end Go.DS

/-
  How the reference puts one at its place: plain.
-/
namespace Go.DS
open Go
set_option linter.unusedVariables false
def stepI (x : Id) (s : List Id × Bool) (o : Id) : List Id × Bool :=
  ((if o = x then (if !s.2 && lessI x o then s.1 ++ [x] else s.1) else (if !s.2 && lessI x o then s.1 ++ [x] else s.1) ++ [o]), s.2 || lessI x o)
def setI (l : List Id) (x : Id) : List Id := if (l.foldl (stepI x) ([], false)).2 then (l.foldl (stepI x) ([], false)).1 else (l.foldl (stepI x) ([], false)).1 ++ [x]
/-- What holds of what was put so far. -/
structure PutOK (x : Id) (p : List Id) (s : List Id × Bool) : Prop where
  rises : Rises s.1
  mem : ∀ y, y ∈ s.1 ↔ (y ∈ p ∧ y ≠ x) ∨ (s.2 = true ∧ y = x)
  done : s.2 = true → ∃ y ∈ p, ordI x y < 0
  not : s.2 = false → ∀ y ∈ p, ¬ ordI x y < 0
theorem lessI_true {a b : Id} : lessI a b = true ↔ ordI a b < 0 := by simp [lessI]
theorem ordI_tri {a b : Id} (h1 : ¬ ordI a b < 0) (h2 : b ≠ a) : ordI b a < 0 := by
  rw [ordI_lt] at *
  have : ¬ (b.e = a.e ∧ b.n = a.n ∧ b.k = a.k) := fun ⟨e1, e2, e3⟩ => h2 (by cases a; cases b; simp_all)
  omega
theorem ordI_trans {a b c : Id} (h1 : ordI a b < 0) (h2 : ordI b c < 0) : ordI a c < 0 := by
  rw [ordI_lt] at *
  omega
theorem ordI_irr (a : Id) : ¬ ordI a a < 0 := by rw [ordI_lt]; omega
theorem rises_app {l : List Id} {o : Id} (h : Rises l) (h2 : ∀ y ∈ l, ordI y o < 0) : Rises (l ++ [o]) := by
  unfold Rises at *
  rw [List.pairwise_append]
  refine ⟨h, List.pairwise_singleton .., fun a ha b hb => ?_⟩
  rw [List.mem_singleton.1 hb]
  exact h2 a ha
theorem put_step {x : Id} {p : List Id} {s : List Id × Bool} (H : PutOK x p s) {o : Id} (ho : ∀ y ∈ p, ordI y o < 0) : PutOK x (p ++ [o]) (stepI x s o) := by
  obtain ⟨l, d⟩ := s
  obtain ⟨h1, h2, h3, h4⟩ := H
  dsimp only at h1 h2 h3 h4
  cases d with
  | true =>
    obtain ⟨z, hz, hxz⟩ := h3 rfl
    have hxo := ordI_trans hxz (ho z hz)
    have hne : o ≠ x := fun e => ordI_irr x (by rw [e] at hxo; exact hxo)
    have hl : ∀ y ∈ l, ordI y o < 0 := fun y hy => by
      rcases (h2 y).1 hy with ⟨hy, _⟩ | ⟨_, e⟩
      · exact ho y hy
      · rw [e]; exact hxo
    have es : stepI x (l, true) o = (l ++ [o], true) := by simp [stepI, hne]
    rw [es]
    refine ⟨rises_app h1 hl, fun y => ?_, fun _ => ⟨o, by simp, hxo⟩, fun h => (by cases h)⟩
    simp only [List.mem_append, List.mem_singleton, h2]
    constructor
    · rintro ((⟨a, b⟩ | ⟨_, b⟩) | b)
      · exact .inl ⟨.inl a, b⟩
      · exact .inr ⟨trivial, b⟩
      · exact .inl ⟨.inr b, by rw [b]; exact hne⟩
    · rintro (⟨a | a, b⟩ | ⟨_, b⟩)
      · exact .inl (.inl ⟨a, b⟩)
      · exact .inr a
      · exact .inl (.inr ⟨trivial, b⟩)
  | false =>
    have h4 := h4 rfl
    have hm : ∀ y, y ∈ l ↔ y ∈ p ∧ y ≠ x := fun y => by rw [h2]; simp
    have hl : ∀ y ∈ l, ordI y o < 0 := fun y hy => ho y ((hm y).1 hy).1
    cases c : lessI x o with
    | true =>
      have hxo := lessI_true.1 c
      have hne : o ≠ x := fun e => ordI_irr x (by rw [e] at hxo; exact hxo)
      have hlx : ∀ y ∈ l, ordI y x < 0 := fun y hy => ordI_tri (h4 y ((hm y).1 hy).1) ((hm y).1 hy).2
      have es : stepI x (l, false) o = (l ++ [x] ++ [o], true) := by simp [stepI, hne, c]
      rw [es]
      refine ⟨rises_app (rises_app h1 hlx) fun y hy => ?_, fun y => ?_, fun _ => ⟨o, by simp, hxo⟩, fun h => (by cases h)⟩
      · rcases List.mem_append.1 hy with hy | hy
        · exact hl y hy
        · rw [List.mem_singleton.1 hy]; exact hxo
      · simp only [List.mem_append, List.mem_singleton, hm]
        constructor
        · rintro ((⟨a, b⟩ | b) | b)
          · exact .inl ⟨.inl a, b⟩
          · exact .inr ⟨trivial, b⟩
          · exact .inl ⟨.inr b, by rw [b]; exact hne⟩
        · rintro (⟨a | a, b⟩ | ⟨_, b⟩)
          · exact .inl (.inl ⟨a, b⟩)
          · exact .inr a
          · exact .inl (.inr b)
    | false =>
      have hxo : ¬ ordI x o < 0 := fun h => by rw [lessI_true.2 h] at c; cases c
      have h4' : ∀ y ∈ p ++ [o], ¬ ordI x y < 0 := fun y hy => by
        rcases List.mem_append.1 hy with hy | hy
        · exact h4 y hy
        · rw [List.mem_singleton.1 hy]; exact hxo
      by_cases he : o = x
      · have es : stepI x (l, false) o = (l, false) := by simp [stepI, he, c, show lessI x x = false by rw [← he] at c ⊢; exact c]
        rw [es]
        refine ⟨h1, fun y => ?_, fun h => (by cases h), fun _ => h4'⟩
        simp only [List.mem_append, List.mem_singleton, hm]
        constructor
        · rintro ⟨a, b⟩; exact .inl ⟨.inl a, b⟩
        · rintro (⟨a | a, b⟩ | ⟨a, _⟩)
          · exact ⟨a, b⟩
          · exact absurd (a.trans he) b
          · cases a
      · have es : stepI x (l, false) o = (l ++ [o], false) := by simp [stepI, he, c]
        rw [es]
        refine ⟨rises_app h1 hl, fun y => ?_, fun h => (by cases h), fun _ => h4'⟩
        simp only [List.mem_append, List.mem_singleton, hm]
        constructor
        · rintro (⟨a, b⟩ | b)
          · exact .inl ⟨.inl a, b⟩
          · exact .inl ⟨.inr b, by rw [b]; exact he⟩
        · rintro (⟨a | a, b⟩ | ⟨a, _⟩)
          · exact .inl ⟨a, b⟩
          · exact .inr a
          · cases a
theorem put_take {x : Id} {l : List Id} (hl : Rises l) (k : Nat) (hk : k ≤ l.length) : PutOK x (l.take k) ((l.take k).foldl (stepI x) ([], false)) := by
  induction k with
  | zero => exact ⟨List.Pairwise.nil, fun y => by simp, fun h => (by cases h), fun _ y hy => by simp at hy⟩
  | succ k ih =>
    have hlt : k < l.length := by omega
    rw [List.take_succ_eq_append_getElem hlt, List.foldl_append]
    refine put_step (ih (by omega)) fun y hy => ?_
    obtain ⟨i, hi, e⟩ := List.mem_take_iff_getElem.1 hy
    rw [← e]
    exact List.pairwise_iff_getElem.1 hl i k (by omega) hlt (by omega)
theorem setI_ok {x : Id} {l : List Id} (hl : Rises l) : Rises (setI l x) ∧ ∀ y, y ∈ setI l x ↔ y = x ∨ y ∈ l := by
  have H := put_take (x := x) hl l.length (Nat.le_refl _)
  rw [List.take_length] at H
  unfold setI
  generalize l.foldl (stepI x) ([], false) = s at *
  obtain ⟨m, d⟩ := s
  obtain ⟨h1, h2, h3, h4⟩ := H
  dsimp only at h1 h2 h3 h4 ⊢
  cases d with
  | true =>
    refine ⟨h1, fun y => ?_⟩
    rw [if_pos rfl, h2]
    by_cases e : y = x <;> simp [e]
  | false =>
    rw [if_neg (by simp)]
    have hm : ∀ y, y ∈ m ↔ y ∈ l ∧ y ≠ x := fun y => by rw [h2]; simp
    refine ⟨rises_app h1 fun y hy => ordI_tri (h4 rfl y ((hm y).1 hy).1) ((hm y).1 hy).2, fun y => ?_⟩
    simp only [List.mem_append, List.mem_singleton, hm]
    by_cases e : y = x <;> simp [e]
theorem setI_put {x : Id} {l : List Id} (hl : Rises l) (hx : x ∉ l) : setI l x = putP l x := by
  obtain ⟨h1, h2⟩ := setI_ok (x := x) hl
  exact rises_eq h1 (put_rises hl) fun y => by rw [h2, put_mem]
theorem step_len (x : Id) (s : List Id × Bool) (o : Id) : (stepI x s o).1.length ≤ s.1.length + 2 := by
  unfold stepI
  dsimp only
  repeat' split
  all_goals first | omega | (simp only [List.length_append, List.length_cons, List.length_nil]; omega)
theorem foldStep_len (x : Id) (l : List Id) (s : List Id × Bool) : (l.foldl (stepI x) s).1.length ≤ s.1.length + 2 * l.length := by
  induction l generalizing s with
  | nil => exact Nat.le_add_right _ _
  | cons o l ih =>
    have h1 := ih (stepI x s o)
    have h2 := step_len x s o
    rw [List.foldl_cons, List.length_cons]
    omega
theorem step_snoc (x : Id) {l : List Id} {k : Nat} (hk : k < l.length) : (l.take (k + 1)).foldl (stepI x) ([], false) = stepI x ((l.take k).foldl (stepI x) ([], false)) l[k] := by
  rw [List.take_succ_eq_append_getElem hk, List.foldl_append]; rfl
theorem putP_len (l : List Id) (x : Id) : (putP l x).length ≤ l.length + 1 := by
  unfold putP
  split
  · omega
  · have h : ∀ l : List Id, (l.filter (fun y => decide (ordI y x < 0))).length + (l.filter (fun y => !decide (ordI y x < 0))).length = l.length := fun l => by
      induction l with
      | nil => rfl
      | cons a l ih =>
        by_cases c : ordI a x < 0 <;> simp [c] <;> omega
    have := h l
    simp only [List.length_append, List.length_cons]
    omega
theorem rclean_take (l : List Id) (k : Nat) : Rises ((l.take k).foldl putP []) := (rclean_go (l.take k) [] List.Pairwise.nil).1
theorem rcleanT_len (l : List Id) (k : Nat) : ((l.take k).foldl putP []).length ≤ k := by
  induction k with
  | zero => simp
  | succ k ih =>
    by_cases hk : k < l.length
    · rw [List.take_succ_eq_append_getElem hk, List.foldl_append]
      have := putP_len ((l.take k).foldl putP []) l[k]
      simp only [List.foldl_cons, List.foldl_nil]
      omega
    · rw [List.take_of_length_le (by omega)] at *
      omega
theorem lessI_eq (a b : Id) : lessI a b = if a.e = b.e then (if a.k = b.k then decide (a.n < b.n) else decide (a.k < b.k)) else decide (a.e < b.e) := by
  rw [Bool.eq_iff_iff, lessI_true, ordI_lt]
  split
  · split <;> simp only [decide_eq_true_eq] <;> omega
  · simp only [decide_eq_true_eq]; omega
end Go.DS

/-
  Walks: the reference's functions of instances, ballots, attributes.
-/
namespace Go.DS
open Go Go.Proofs
set_option maxRecDepth 100000
set_option linter.unusedVariables false
set_option linter.unusedSimpArgs false
def cd71 : Cd := .seq (R [c0 2 (.new false (.s 0)), c0 3 (.new false (.s 1)), cb 4 (.tk (.c (kb false)))] [2, 3]) (.seq (.seq (R [c0 5 (.mov 0 (.s 2)), c0 6 (.ld false 1 (.s 5)), c0 7 (.mov 0 (.s 3)), c0 8 (.ld false 1 (.s 7)), cb 9 (.bin .neq .any (.s 6) (.s 8))] [2, 3, 9]) (.ite (.s 9) (.seq (R [c0 10 (.mov 0 (.s 2)), c0 11 (.ld false 1 (.s 10)), c0 12 (.mov 0 (.s 3)), c0 13 (.ld false 1 (.s 12)), cb 14 (.bin .lss .any (.s 11) (.s 13)), cb 4 (.tk (.s 14))] [2, 3, 4]) (.ret)) (.skip))) (.seq (.seq (R [c0 15 (.mov 2 (.s 2)), c0 16 (.ld false 1 (.s 15)), c0 17 (.mov 2 (.s 3)), c0 18 (.ld false 1 (.s 17)), cb 19 (.bin .neq .any (.s 16) (.s 18))] [2, 3, 19]) (.ite (.s 19) (.seq (R [c0 20 (.mov 2 (.s 2)), c0 21 (.ld false 1 (.s 20)), c0 22 (.mov 2 (.s 3)), c0 23 (.ld false 1 (.s 22)), cb 24 (.bin .lss .any (.s 21) (.s 23)), cb 4 (.tk (.s 24))] [2, 3, 4]) (.ret)) (.skip))) (.seq (R [c0 25 (.mov 1 (.s 2)), c0 26 (.ld false 1 (.s 25)), c0 27 (.mov 1 (.s 3)), c0 28 (.ld false 1 (.s 27)), cb 29 (.bin .lss .any (.s 26) (.s 28)), cb 4 (.tk (.s 29))] [2, 3, 4]) (.ret))))
theorem fun71 : Fun Try.prog cfg 71 30 cd71 [.s 4] := ⟨rfl, Try.f71, _, Try.func71, rfl, rfl, by kernel_rfl, by kernel_rfl⟩
@[go_sem] theorem ok71 : calleeOK Try.prog 71 = true := by kernel_rfl
@[go_sem] theorem ex71 : (cfg.ext 71).isSome = false := rfl
def cd70 : Cd := .seq (R [c0 3 (.new false (.s 1)), cb 4 (.tk (.c (kb false)))] [0, 3]) (.seq (.seq (R [c0 5 (.tk (.c (ki .i64 0)))] [0, 3, 5]) (.block 0 (LP [0, 3, 5] (.seq (.seq (R [c0 6 (.mv (.s 5)), c0 7 (.mv (.s 0)), c0 8 (.len 1 (.s 7)), cb 9 (.bin .lss .any (.s 6) (.s 8))] [0, 3, 5, 9]) (.ite (.s 9) (.skip) (.exit 0))) (.seq (.block 1 (.seq (RD [cd (some 12) false none (.mv (.s 0)) false false [0], cd (some 13) false none (.mv (.s 5)) false false [5], cd (some 14) false none (.ixp 3 (.s 12) (.s 13)) false false [12, 13], cd (some 15) false none (.ld true 3 (.s 14)) false false [14], cd (some 16) false none (.ld true 3 (.s 3)) false false [3], cd (some 17) true none (.bin .eql (.flat [0, 0, 0]) (.s 15) (.s 16)) false false [15, 16]] [0, 3, 5, 17] []) (.ite (.s 17) (.seq (R [cb 4 (.tk (.c (kb true)))] [3, 4]) (.ret)) (.skip)))) (R [c0 10 (.mv (.s 5)), c0 11 (.bin .add .any (.s 10) (.c (ki .i64 1))), c0 5 (.tk (.s 11))] [0, 3, 5])))))) (.seq (R [cb 4 (.tk (.c (kb false)))] [3, 4]) (.ret)))
theorem fun70 : Fun Try.prog cfg 70 18 cd70 [.s 4] := ⟨rfl, Try.f70, _, Try.func70, rfl, rfl, by kernel_rfl, by kernel_rfl⟩
@[go_sem] theorem ok70 : calleeOK Try.prog 70 = true := by kernel_rfl
@[go_sem] theorem ex70 : (cfg.ext 70).isSome = false := rfl
def cd59 : Cd := .seq (R [c0 3 (.new false (.s 1)), c0 4 (.tk (.c (kn 3)))] [0, 3]) (.seq (.seq (R [c0 8 (.mv (.s 0)), c0 9 (.ld true 3 (.s 3)), cb 10 (.call none (.c (kf 70)) [(.s 8), (.s 9)])] [0, 3, 10]) (.ite (.s 10) (.seq (R [c0 11 (.tk (.s 0)), c0 4 (.tk (.s 11))] [3, 4]) (.ret)) (.skip))) (.seq (R [c0 5 (.tk (.c (kn 3)))] [0, 3, 5]) (.seq (R [cb 6 (.tk (.c (kb false)))] [0, 3, 5, 6]) (.seq (.seq (R [c0 7 (.tk (.c (ki .i64 0)))] [0, 3, 5, 6, 7]) (.block 0 (LP [0, 3, 5, 6, 7] (.seq (.seq (R [c0 12 (.mv (.s 7)), c0 13 (.mv (.s 0)), c0 14 (.len 1 (.s 13)), cb 15 (.bin .lss .any (.s 12) (.s 14))] [0, 3, 5, 6, 7, 15]) (.ite (.s 15) (.skip) (.exit 0))) (.seq (.block 1 (.seq (.seq (RD [cd (some 18) true none (.mv (.s 6)) false false [6], cd (some 19) true none (.un .not (.s 18)) false false [18], cd (some 20) true none (.mv (.s 19)) false false [19], cd (some 21) false (some (20, true)) (.ld true 3 (.s 3)) false false [3], cd (some 22) false (some (20, true)) (.mv (.s 0)) false false [0], cd (some 23) false (some (20, true)) (.mv (.s 7)) false false [7], cd (some 24) false (some (20, true)) (.ixp 3 (.s 22) (.s 23)) false false [22, 23], cd (some 25) false (some (20, true)) (.ld true 3 (.s 24)) false false [24], cd (some 26) true (some (20, true)) (.call none (.c (kf 71)) [(.s 21), (.s 25)]) false false [21, 25], cd (some 27) true none (.pick (.s 20) (.s 26) (.c (kb false))) false false [20, 26]] [0, 3, 5, 6, 7, 27] []) (.ite (.s 27) (.seq (R [c0 28 (.tk (.s 5)), c0 29 (.ld true 3 (.s 3)), c0 30 (.bsl 3 [(.s 29)]), c0 31 (.app 3 28 false (.s 28) (.s 30)), c0 5 (.tk (.s 31))] [0, 3, 5, 7]) (R [cb 6 (.tk (.c (kb true)))] [0, 3, 5, 6, 7])) (.skip))) (R [c0 32 (.tk (.s 5)), c0 33 (.mv (.s 0)), c0 34 (.mv (.s 7)), c0 35 (.ixp 3 (.s 33) (.s 34)), c0 36 (.ld true 3 (.s 35)), c0 37 (.bsl 3 [(.s 36)]), c0 38 (.app 3 28 false (.s 32) (.s 37)), c0 5 (.tk (.s 38))] [0, 3, 5, 6, 7]))) (R [c0 16 (.mv (.s 7)), c0 17 (.bin .add .any (.s 16) (.c (ki .i64 1))), c0 7 (.tk (.s 17))] [0, 3, 5, 6, 7])))))) (.seq (.seq (R [cb 39 (.mv (.s 6)), cb 40 (.un .not (.s 39))] [3, 5, 40]) (.ite (.s 40) (R [c0 41 (.tk (.s 5)), c0 42 (.ld true 3 (.s 3)), c0 43 (.bsl 3 [(.s 42)]), c0 44 (.app 3 28 false (.s 41) (.s 43)), c0 5 (.tk (.s 44))] [3, 5]) (.skip))) (.seq (R [c0 45 (.tk (.s 5)), c0 4 (.tk (.s 45))] [3, 4]) (.ret)))))))
theorem fun59 : Fun Try.prog cfg 59 46 cd59 [.s 4] := ⟨rfl, Try.f59, _, Try.func59, rfl, rfl, by kernel_rfl, by kernel_rfl⟩
@[go_sem] theorem ok59 : calleeOK Try.prog 59 = true := by kernel_rfl
@[go_sem] theorem ex59 : (cfg.ext 59).isSome = false := rfl
def cd44 : Cd := .seq (R [c0 2 (.tk (.c (kn 3)))] [0]) (.seq (R [c0 3 (.tk (.c (kn 3)))] [0, 3]) (.seq (.seq (R [c0 4 (.tk (.c (ki .i64 0)))] [0, 3, 4]) (.block 0 (LP [0, 3, 4] (.seq (.seq (R [c0 5 (.mv (.s 4)), c0 6 (.mv (.s 0)), c0 7 (.len 1 (.s 6)), cb 8 (.bin .lss .any (.s 5) (.s 7))] [0, 3, 4, 8]) (.ite (.s 8) (.skip) (.exit 0))) (.seq (.block 1 (R [c0 11 (.mv (.s 3)), c0 12 (.mv (.s 0)), c0 13 (.mv (.s 4)), c0 14 (.ixp 3 (.s 12) (.s 13)), c0 15 (.ld true 3 (.s 14)), c0 16 (.call none (.c (kf 59)) [(.s 11), (.s 15)]), c0 3 (.tk (.s 16))] [0, 3, 4])) (R [c0 9 (.mv (.s 4)), c0 10 (.bin .add .any (.s 9) (.c (ki .i64 1))), c0 4 (.tk (.s 10))] [0, 3, 4])))))) (.seq (R [c0 17 (.tk (.s 3)), c0 2 (.tk (.s 17))] [2]) (.ret))))
theorem fun44 : Fun Try.prog cfg 44 18 cd44 [.s 2] := ⟨rfl, Try.f44, _, Try.func44, rfl, rfl, by kernel_rfl, by kernel_rfl⟩
@[go_sem] theorem ok44 : calleeOK Try.prog 44 = true := by kernel_rfl
@[go_sem] theorem ex44 : (cfg.ext 44).isSome = false := rfl
variable {h : DHeap}
theorem rlessD_lim (a b : Id) : lim Try.prog cfg 71 [.agg [vi a.e, vi a.n, vi a.k], .agg [vi b.e, vi b.n, vi b.k]] h = some (vb (lessI a b), h) := by
  refine lim_funp fun71 rfl (by simp) rfl rfl ?_
  delta cd71
  rw [lessI_eq]
  by_cases h1 : a.e = b.e
  · by_cases h2 : a.k = b.k
    · rw [if_pos h1, if_pos h2]
      simp -implicitDefEqProofs -dsimp only [go_sem, eq_true h1, eq_true h2] <;> simp
    · rw [if_pos h1, if_neg h2]
      simp -implicitDefEqProofs -dsimp only [go_sem, eq_true h1, eq_false h2] <;> simp
  · rw [if_neg h1]
    simp -implicitDefEqProofs -dsimp only [go_sem, eq_false h1] <;> simp
theorem rhasD_lim (own : Bool) (l : List Id) (x : Id) (hl : l.length ≤ 1099511627776) :
    lim Try.prog cfg 70 [.list own 3 (idr l), .agg [vi x.e, vi x.n, vi x.k]] h = some (vb (decide (x ∈ l)), h) := by
  refine lim_funp fun70 rfl (by simp) (by simp [heapFree, heapFree.all, free_idr]) rfl ?_
  delta cd70
  simp -implicitDefEqProofs -dsimp only [go_sem]
  refine wp_for (σ := Nat) (fun k => [(0, .list false 3 (idr l)), (3, .box [vi x.e, vi x.n, vi x.k]), (5, vi (k : Nat))]) (fun _ => []) (fun k => l.length - k) (fun k => k ≤ l.length ∧ ∀ j (hj : j < l.length), j < k → l[j] ≠ x) 0 (by simp) rfl rfl ?_
  rintro k ⟨hk, hj⟩ N hN
  by_cases hlt : k < l.length
  · have h1 : ((k : Int) < (l.length : Int)) := by omega
    by_cases hc : l[k] = x
    · have e : x ∈ l := by rw [← hc]; exact List.getElem_mem hlt
      rw [decide_eq_true e]
      simp -implicitDefEqProofs -dsimp only [go_sem, wp_RD, h1, hlt, eq_true hc]
    · simp -implicitDefEqProofs -dsimp only [go_sem, wp_RD, h1, hlt, eq_false hc]
      refine hN (k + 1) _ (by omega) ⟨by omega, fun j hj1 hj2 => ?_⟩ ?_
      · by_cases e : j = k
        · subst e; exact hc
        · exact hj j hj1 (by omega)
      · simp -implicitDefEqProofs -dsimp only [go_sem, wrap_succ (show k < 9223372036854775807 by omega)]
  · have h1 : ¬ ((k : Int) < (l.length : Int)) := by omega
    have e : ¬ x ∈ l := fun hx => by
      obtain ⟨j, hj1, e⟩ := List.getElem_of_mem hx
      exact hj j hj1 (by omega) e
    rw [decide_eq_false e]
    simp -implicitDefEqProofs -dsimp only [go_sem, h1]
theorem szI {n : Nat} (h : n ≤ 2000000) : (n + 1) * 28 ≤ maxLenD ∧ (n + 1 + 1) * 28 ≤ maxLenD := by unfold maxLenD; omega
set_option maxHeartbeats 2000000 in
theorem rput_lim (own : Bool) (l : List Id) (x : Id) (hl : l.length ≤ 1000000) (hr : Rises l) :
    lim Try.prog cfg 59 [.list own 3 (idr l), .agg [vi x.e, vi x.n, vi x.k]] h = some (.list (!decide (x ∈ l)) 3 (idr (putP l x)), h) := by
  have e1 := rhasD_lim (h := []) false l x (by omega)
  by_cases hx : x ∈ l
  · rw [decide_eq_true hx] at e1
    have ep : putP l x = l := by unfold putP; rw [if_pos hx]
    rw [ep, decide_eq_true hx]
    refine lim_funp fun59 rfl (by simp) (by simp [heapFree, heapFree.all, free_idr]) (by simp [heapFree, heapFree.all, free_idr]) ?_
    delta cd59
    simp -implicitDefEqProofs -dsimp only [go_sem, e1]
  rw [decide_eq_false hx] at e1
  rw [← setI_put hr hx, decide_eq_false hx]
  refine lim_funp fun59 rfl (by simp) (by simp [heapFree, heapFree.all, free_idr]) (by simp [heapFree, heapFree.all, free_idr]) ?_
  delta cd59
  simp -implicitDefEqProofs -dsimp only [go_sem, e1]
  refine wp_for (σ := Nat) (fun k => [(0, .list false 3 (idr l)), (3, .box [vi x.e, vi x.n, vi x.k]), (5, .list true 3 (idr ((l.take k).foldl (stepI x) ([], false)).1)), (6, vb ((l.take k).foldl (stepI x) ([], false)).2), (7, vi (k : Nat))]) (fun _ => []) (fun k => l.length - k) (fun k => k ≤ l.length) 0 (by simp) rfl rfl ?_
  rintro k hk N hN
  have sl : ((l.take k).foldl (stepI x) ([], false)).1.length ≤ 2000000 := by
    have := foldStep_len x (l.take k) ([], false)
    rw [List.length_take] at this
    simp only [List.length_nil] at this
    omega
  by_cases hlt : k < l.length
  · have h1 : ((k : Int) < (l.length : Int)) := by omega
    have ss := step_snoc x hlt
    have hne : l[k] ≠ x := fun e => hx (by rw [← e]; exact List.getElem_mem hlt)
    have e2 := rlessD_lim (h := []) x l[k]
    have N2 := hN (k + 1)
    rw [ss] at N2
    clear hN
    generalize (l.take k).foldl (stepI x) ([], false) = s at *
    obtain ⟨m, d⟩ := s
    dsimp only at sl
    obtain ⟨hm1, hm2⟩ := szI sl
    cases d with
    | true =>
      have es : stepI x (m, true) l[k] = (m ++ [l[k]], true) := by simp [stepI, hne]
      rw [es] at N2
      simp -implicitDefEqProofs -dsimp only [go_sem, wp_RD, h1, hlt, hm1]
      refine N2 _ (by omega) (by omega) ?_
      simp -implicitDefEqProofs -dsimp only [go_sem, wrap_succ (show k < 9223372036854775807 by omega)]
    | false =>
      cases c : lessI x l[k] with
      | true =>
        rw [c] at e2
        have es : stepI x (m, false) l[k] = (m ++ [x] ++ [l[k]], true) := by simp [stepI, hne, c]
        rw [es] at N2
        have hm3 : ((m ++ [({ e := x.e, n := x.n, k := x.k } : Id)]).length + 1) * 28 ≤ maxLenD := by rw [List.length_append]; exact hm2
        simp -implicitDefEqProofs -dsimp only [go_sem, wp_RD, h1, hlt, hm1, hm3, e2]
        refine N2 _ (by omega) (by omega) ?_
        simp -implicitDefEqProofs -dsimp only [go_sem, wrap_succ (show k < 9223372036854775807 by omega)]
      | false =>
        rw [c] at e2
        have es : stepI x (m, false) l[k] = (m ++ [l[k]], false) := by simp [stepI, hne, c]
        rw [es] at N2
        simp -implicitDefEqProofs -dsimp only [go_sem, wp_RD, h1, hlt, hm1, hm2, e2]
        refine N2 _ (by omega) (by omega) ?_
        simp -implicitDefEqProofs -dsimp only [go_sem, wrap_succ (show k < 9223372036854775807 by omega)]
  · have h1 : ¬ ((k : Int) < (l.length : Int)) := by omega
    rw [List.take_of_length_le (by omega)] at *
    unfold setI
    clear hN
    generalize l.foldl (stepI x) ([], false) = s at *
    obtain ⟨m, d⟩ := s
    dsimp only at sl
    obtain ⟨hm1, hm2⟩ := szI sl
    cases d with
    | true => simp -implicitDefEqProofs -dsimp only [go_sem, h1, if_true]
    | false => simp -implicitDefEqProofs -dsimp only [go_sem, h1, hm1, Bool.false_eq_true, if_false]
/-- Is the row that the reference cleans its own one? -/
def stepC (s : List Id × Bool) (x : Id) : List Id × Bool := (putP s.1 x, !decide (x ∈ s.1))
def ownC (l : List Id) : Bool := (l.foldl stepC ([], true)).2
theorem stepC_fst (l : List Id) (s : List Id × Bool) : (l.foldl stepC s).1 = l.foldl putP s.1 := by
  induction l generalizing s with
  | nil => rfl
  | cons x l ih => exact ih _
set_option maxHeartbeats 1000000 in
theorem rclean_lim (own : Bool) (l : List Id) (hl : l.length ≤ 1000000) : lim Try.prog cfg 44 [.list own 3 (idr l)] h = some (.list (ownC l) 3 (idr (cleanP l)), h) := by
  have ec : cleanP l = (l.foldl stepC ([], true)).1 := by rw [stepC_fst, ← rclean_eq]; rfl
  rw [ec]
  unfold ownC
  refine lim_funp fun44 rfl (by simp) (by simp [heapFree, heapFree.all, free_idr]) (by simp [heapFree, heapFree.all, free_idr]) ?_
  delta cd44
  simp -implicitDefEqProofs -dsimp only [go_sem]
  refine wp_for (σ := Nat) (fun k => [(0, .list false 3 (idr l)), (3, .list ((l.take k).foldl stepC ([], true)).2 3 (idr ((l.take k).foldl stepC ([], true)).1)), (4, vi (k : Nat))]) (fun _ => []) (fun k => l.length - k) (fun k => k ≤ l.length) 0 (by simp) rfl rfl ?_
  rintro k hk N hN
  by_cases hlt : k < l.length
  · have h1 : ((k : Int) < (l.length : Int)) := by omega
    have sl := rcleanT_len l k
    have sr := rclean_take l k
    rw [← stepC_fst (l.take k) ([], true)] at sl sr
    have es : (l.take (k + 1)).foldl stepC ([], true) = stepC ((l.take k).foldl stepC ([], true)) l[k] := by rw [List.take_succ_eq_append_getElem hlt, List.foldl_append]; rfl
    have N2 := hN (k + 1)
    rw [es] at N2
    clear hN es
    generalize (l.take k).foldl stepC ([], true) = s at *
    obtain ⟨m, o⟩ := s
    have e1 := rput_lim (h := []) false m l[k] (by dsimp only at sl; omega) sr
    simp only [stepC] at N2
    generalize (!decide (l[k] ∈ m)) = o2 at *
    cases o <;> cases o2
    all_goals
      simp -implicitDefEqProofs -dsimp only [go_sem, h1, hlt, e1]
      refine N2 _ (by omega) (by omega) ?_
      simp -implicitDefEqProofs -dsimp only [go_sem, wrap_succ (show k < 9223372036854775807 by omega)]
  · have h1 : ¬ ((k : Int) < (l.length : Int)) := by omega
    rw [List.take_of_length_le (by omega)]
    clear hN
    generalize l.foldl stepC ([], true) = s at *
    obtain ⟨m, o⟩ := s
    cases o <;> simp -implicitDefEqProofs -dsimp only [go_sem, h1]
theorem idr_at {l : List Id} {k : Nat} (hk : k < l.length) (N : List DV → Prop) : IdxP (idr l) (Nf (k : Int)) N = N [vi l[k].e, vi l[k].n, vi l[k].k] := by
  show IdxP (idr l) (k : Int) N = _
  rw [idxP_idr]
  simp [IdxP, hk]
theorem knr_at {l : List Kno} {k : Nat} (hk : k < l.length) (N : List DV → Prop) : IdxP (kns l) (Nf (k : Int)) N = N [vi l[k].id.e, vi l[k].id.n, vi l[k].id.k, vi l[k].cmd.client, vi l[k].cmd.seq, vi l[k].cmd.op, vs l[k].cmd.path, vs l[k].cmd.value, vi l[k].cmd.version, vi l[k].cmd.a, vi l[k].cmd.b, vi l[k].att.seq, .list false 3 (idr l[k].att.deps)] := by
  show IdxP (kns l) (k : Int) N = _
  rw [idxP_kns]
  simp [IdxP, hk]
/-- What the reference found so far. -/
def localN (l : List Kno) (id : Id) (c : Cmd) (k : Nat) : List Id × Int := (((l.take k).filter (matters id c)).map (·.id), ((l.take k).filter (matters id c)).foldl (fun n x => max n x.att.seq) 0)
theorem localN_succ (l : List Kno) (id : Id) (c : Cmd) (k : Nat) (hk : k < l.length) : localN l id c (k + 1) = if matters id c l[k] then ((localN l id c k).1 ++ [l[k].id], max (localN l id c k).2 l[k].att.seq) else localN l id c k := by
  unfold localN
  rw [List.take_succ_eq_append_getElem hk, List.filter_append]
  cases hm : matters id c l[k] <;> simp [hm]
theorem localN_len (l : List Kno) (id : Id) (c : Cmd) (k : Nat) : (localN l id c k).1.length ≤ k := by
  unfold localN
  rw [List.length_map]
  exact Nat.le_trans (List.length_filter_le ..) (by rw [List.length_take]; omega)
end Go.DS

/-
  Arguments, opened: lists of texts.
-/
namespace Go.DS
open Go Go.Proofs Go.ChangeShapes Go.WideShapes Go.RowKit Go.Proofs.Ytpbknejlalkfjaa Go.Deep
set_option linter.unusedVariables false
set_option linter.unusedSimpArgs false

theorem own' : ownKnob Try.prog.godebug = none := by kernel_rfl
theorem laidOut' : laidOutB Try.prog = true := by kernel_rfl
theorem bulk_get {H : Type} : ∀ {l : List (DataW H)} {d : DataW H}, d ∈ l → Rows.uptoBulk d ≤ Rows.uptoBulkAll l
  | x :: l, d, h => by
    simp only [Rows.uptoBulkAll]
    rcases List.mem_cons.1 h with rfl | h
    · omega
    · have := bulk_get h; omega
theorem bulk_pos {H : Type} (d : DataW H) : 1 ≤ Rows.uptoBulk d := by
  cases d <;> try (simp [Rows.uptoBulk]; done)
  rename_i l; cases l <;> simp [Rows.uptoBulk]
theorem bulk_len {H : Type} : ∀ (l : List (DataW H)), l.length ≤ Rows.uptoBulkAll l
  | [] => Nat.le_refl _
  | d :: l => by
    have := bulk_len l
    have := bulk_pos d
    simp only [Rows.uptoBulkAll, List.length_cons]; omega

theorem strs_rel {H : Type} {enc : TypeId × Value → H} {P : Program} {W : World} {held : Bool} {t e : TypeId} {a : Option Addr} {len cap : Nat} {d : DataW H} {ps : List MemPlace} (ht : P.underlying t = some (.slice e)) (he : P.underlying e = some .string) (hc : P.cellsOf e = 1)
    (h : DataW.Trod enc P W 0 (fun _ => true) held t (.slice a len cap) d ps) :
    ∃ l : List Str, RelV (gh0 W) (.list false 1 (ts l)) (.slice a len cap) ∧ l.length < Rows.uptoBulk d ∧ ∀ s ∈ l, s.length < Rows.uptoBulk d := by
  obtain ⟨fuel, hf⟩ := h
  rcases open_strs ht he hc hf with ⟨hcs, hx⟩ | ⟨ad, len', cap', m, Sx, hcs, _, hl, hm, hmm, hx, hcell⟩
  · simp [Value.cells] at hcs
    obtain ⟨rfl, rfl, rfl⟩ := hcs
    refine ⟨[], .empty, ?_, by simp⟩
    exact bulk_pos d
  · simp [Value.cells] at hcs
    obtain ⟨rfl, rfl, rfl⟩ := hcs
    have hlm : len ≤ m := by rw [hmm]; simp; exact hl
    have hd : d = .slice ((List.range len).map fun i => .lit (.string (Sx i).data.toList)) ((List.range (m - len)).map fun j => .lit (.string (Sx (len + j)).data.toList)) := by
      simpa using congrArg Prod.fst hx
    refine ⟨(List.range len).map fun i => bs (Sx i), ?_, ?_, ?_⟩
    · have hts : ts ((List.range len).map fun i => bs (Sx i)) = (List.range len).map fun i => [DV.sc (.string (Sx i))] := by
        simp only [ts, List.map_map]; rfl
      have hfl : ((List.range len).map fun i => [DV.sc (.string (Sx i))]).flatten = (List.range len).map fun i => DV.sc (.string (Sx i)) := by
        generalize List.range len = r
        induction r with
        | nil => rfl
        | cons x r ih => simp only [List.map_cons, List.flatten_cons, ih]; rfl
      have hlen : ((List.range len).map fun i => [DV.sc (.string (Sx i))]).length = len := by simp
      obtain ⟨b, off, g⟩ := ad
      show RelV (gh0 W) (.list false 1 (ts _)) _
      rw [hts]
      by_cases hz : len = 0
      · subst hz
        exact .empty
      · have hgn : g = none := by
          have := (hcell 0 (by omega)).1
          cases g with
          | none => rfl
          | some _ =>
            simp [World.cell?, Addr.add] at this
            split at this <;> simp at this
        subst hgn
        have hg : ∀ i, i < m → W.cell? ⟨b, off + i, none⟩ = some (.string (Sx i)) := fun i hi => by
          have := (hcell i hi).1
          by_cases hi0 : i = 0
          · subst hi0; simpa [Addr.add] using this
          · simpa [Addr.add, hi0] using this
        have := RelV.list (g := gh0 W) (own := false) (es := 1) (l := (List.range len).map fun i => [DV.sc (.string (Sx i))]) (cap := cap) (b := b) (off := off) (vs := (List.range len).map fun i => Value.string (Sx i)) (by simpa using hl) (by simp)
          (by rw [hfl]; simp) (by
            rw [hfl]
            intro k x v hx hv
            rw [List.getElem?_map] at hx hv
            cases hr : (List.range len)[k]? with
            | none => rw [hr] at hx; cases hx
            | some i => rw [hr] at hx hv; cases hx; cases hv; exact .sc _) (by
            intro k v hv
            rw [List.getElem?_map] at hv
            cases hr : (List.range len)[k]? with
            | none => rw [hr] at hv; cases hv
            | some i =>
              rw [hr] at hv; cases hv
              obtain ⟨hk, rfl⟩ := List.getElem?_eq_some_iff.1 hr
              simp only [List.getElem_range]
              simp only [List.length_range] at hk
              exact gh0_pc (hg k (by omega)) rfl)
        rwa [hlen] at this
    · rw [hd]
      have := bulk_len ((List.range len).map fun i => (DataW.lit (.string (Sx i).data.toList) : DataW H))
      simp only [Rows.uptoBulk, List.length_map, List.length_range] at this ⊢
      omega
    · intro s hs
      obtain ⟨i, hi, rfl⟩ := List.mem_map.1 hs
      have := bulk_get (H := H) (List.mem_map_of_mem (f := fun i => (DataW.lit (.string (Sx i).data.toList) : DataW H)) hi)
      rw [hd]
      simp only [Rows.uptoBulk] at this ⊢
      show (Sx i).data.toList.length < _
      omega
end Go.DS

/-
  Arguments of any plain type, opened: texts, numbers, truth values, slices and structs of them.
-/
namespace Go.DS
open Go Go.Proofs Go.ChangeShapes Go.WideShapes Go.RowKit Go.Proofs.Ytpbknejlalkfjaa Go.Deep
set_option linter.unusedVariables false
set_option linter.unusedSimpArgs false

/-- Fields, one behind the other. -/
def tilesB (P : Program) : List Field → Nat → Nat → Bool
  | [], k, m => k == m
  | f :: fs, k, m => f.offset == k && tilesB P fs (k + P.cellsOf f.type) m
/-- Types of plain data. -/
def plainTy (P : Program) : Nat → TypeId → Bool
  | 0, _ => false
  | n + 1, t => match P.underlying t with
    | some .bool => P.cellsOf t == 1
    | some (.int _) => P.cellsOf t == 1
    | some .string => P.cellsOf t == 1
    | some (.slice e) => P.cellsOf t == 1 && decide (0 < P.cellsOf e) && plainTy P n e
    | some (.struct fs) => tilesB P fs.toList 0 (P.cellsOf t) && fs.toList.all fun f => plainTy P n f.type
    | _ => false
/-- What clean cells of plain data look like. -/
def Sh (P : Program) (B : Nat) : Nat → TypeId → List DV → Prop
  | 0, _, _ => False
  | n + 1, t, ds => match P.underlying t with
    | some .bool => ∃ b, ds = [.sc (.bool b)]
    | some (.int k) => ∃ m, ds = [.sc (.int k m)] ∧ k.min ≤ m ∧ m ≤ k.max
    | some .string => ∃ s, ds = [.sc (.string (mkB s))] ∧ s.length ≤ B
    | some (.slice e) => ∃ l, ds = [.list false (P.cellsOf e) l] ∧ l.length ≤ B ∧ ∀ r ∈ l, Sh P B n e r
    | some (.struct fs) => ds.length = P.cellsOf t ∧ ∀ (i : Nat) (f : Field), fs[i]? = some f → Sh P B n f.type ((ds.drop f.offset).take (P.cellsOf f.type))
    | _ => False
theorem sh_int {P : Program} {B n : Nat} {t : TypeId} {k : IntKind} {ds : List DV} (ht : P.underlying t = some (.int k)) (h : Sh P B (n + 1) t ds) : ∃ m, ds = [.sc (.int k m)] ∧ k.min ≤ m ∧ m ≤ k.max := by
  unfold Sh at h; rw [ht] at h; exact h
theorem sh_bool {P : Program} {B n : Nat} {t : TypeId} {ds : List DV} (ht : P.underlying t = some .bool) (h : Sh P B (n + 1) t ds) : ∃ b, ds = [.sc (.bool b)] := by
  unfold Sh at h; rw [ht] at h; exact h
theorem sh_str {P : Program} {B n : Nat} {t : TypeId} {ds : List DV} (ht : P.underlying t = some .string) (h : Sh P B (n + 1) t ds) : ∃ s, ds = [.sc (.string (mkB s))] ∧ s.length ≤ B := by
  unfold Sh at h; rw [ht] at h; exact h
theorem sh_slice {P : Program} {B n : Nat} {t e : TypeId} {ds : List DV} (ht : P.underlying t = some (.slice e)) (h : Sh P B (n + 1) t ds) : ∃ l, ds = [.list false (P.cellsOf e) l] ∧ l.length ≤ B ∧ ∀ r ∈ l, Sh P B n e r := by
  unfold Sh at h; rw [ht] at h; exact h
theorem sh_struct {P : Program} {B n : Nat} {t : TypeId} {fs : Array Field} {ds : List DV} (ht : P.underlying t = some (.struct fs)) (h : Sh P B (n + 1) t ds) :
    ds.length = P.cellsOf t ∧ ∀ (i : Nat) (f : Field), fs[i]? = some f → Sh P B n f.type ((ds.drop f.offset).take (P.cellsOf f.type)) := by
  unfold Sh at h; rw [ht] at h; exact h

theorem RelL.cells_one {g : Gh} {ds : List DV} {vs : List Value} (hr : RelL g ds vs) (hc : ds.all DV.cell = true) : ∀ u ∈ vs, u.oneCell' = true := relL_one hr hc

/-- Rows, one behind the other in memory. -/
theorem rows_list {g : Gh} {b off es : Nat} {Q : List DV → Prop} : ∀ (len : Nat), (∀ i, i < len → ∃ ds cs, RelL g ds cs ∧ ds.length = es ∧ (∀ k v, cs[k]? = some v → g.pc b (off + i * es + k) = some v) ∧ Q ds) →
    ∃ (l : List (List DV)) (vs : List Value), l.length = len ∧ (∀ r ∈ l, r.length = es ∧ Q r) ∧ RelL g l.flatten vs ∧ (∀ k v, vs[k]? = some v → g.pc b (off + k) = some v)
  | 0, _ => ⟨[], [], rfl, by simp, RelL.nil g, by simp⟩
  | len + 1, H => by
    obtain ⟨l, vs, h1, h2, h3, h4⟩ := rows_list len fun i hi => H i (by omega)
    obtain ⟨ds, cs, k1, k2, k3, k4⟩ := H len (by omega)
    have hfl : ∀ (l : List (List DV)), (∀ r ∈ l, r.length = es ∧ Q r) → l.flatten.length = l.length * es := by
      intro l
      induction l with
      | nil => intro _; simp
      | cons r l ih =>
        intro h
        rw [List.flatten_cons, List.length_append, (h r List.mem_cons_self).1, ih fun x hx => h x (List.mem_cons_of_mem _ hx), List.length_cons, Nat.add_mul]
        omega
    have hlen : vs.length = len * es := by rw [← h3.len, hfl l h2, h1]
    refine ⟨l ++ [ds], vs ++ cs, by simp [h1], ?_, ?_, ?_⟩
    · intro r hr
      rcases List.mem_append.1 hr with hr | hr
      · exact h2 r hr
      · rw [List.mem_singleton.1 hr]; exact ⟨k2, k4⟩
    · rw [List.flatten_append, List.flatten_cons, List.flatten_nil, List.append_nil]
      exact h3.append k1
    · intro k v hv
      by_cases hk : k < vs.length
      · rw [List.getElem?_append_left hk] at hv; exact h4 k v hv
      · rw [List.getElem?_append_right (by omega)] at hv
        have := k3 _ v hv
        rw [← this]
        congr 1
        omega

theorem tiles_rel {H : Type} {enc : TypeId × Value → H} {P : Program} {W : World} {held : Bool} {g : Gh} {B n m : Nat} {cs : List Value} {xs : List (DataW H × List MemPlace)}
    (ih : ∀ t cs d ps, plainTy P n t = true → DataW.trod enc P W 0 (fun _ => true) held m t cs = some (d, ps) → Rows.uptoBulk d ≤ B + 1 → ∃ ds, RelL g ds cs ∧ ds.all DV.cell = true ∧ Sh P B n t ds ∧ cs.length = P.cellsOf t)
    (hB : ∀ x ∈ xs, Rows.uptoBulk x.1 ≤ B + 1) :
    ∀ (fs : List Field) (i0 k tot : Nat), tilesB P fs k tot = true → (fs.all fun f => plainTy P n f.type) = true → cs.length = tot →
      (∀ (i : Nat) (f : Field), fs[i]? = some f → ∃ x, xs[i0 + i]? = some x ∧ DataW.trod enc P W 0 (fun _ => true) held m f.type ((cs.drop f.offset).take (P.cellsOf f.type)) = some x) →
      k ≤ tot ∧ ∃ ds, RelL g ds (cs.drop k) ∧ ds.all DV.cell = true ∧ (∀ (i : Nat) (f : Field), fs[i]? = some f → k ≤ f.offset ∧ Sh P B n f.type ((ds.drop (f.offset - k)).take (P.cellsOf f.type)))
  | [], i0, k, tot, ht, _, hl, _ => by
    simp only [tilesB, beq_iff_eq] at ht
    subst ht
    refine ⟨Nat.le_refl _, [], ?_, rfl, by simp⟩
    rw [List.drop_eq_nil_of_le (by omega)]
    exact RelL.nil g
  | f :: fs, i0, k, tot, ht, hp, hl, hx => by
    simp only [tilesB, Bool.and_eq_true, beq_iff_eq] at ht
    simp only [List.all_cons, Bool.and_eq_true] at hp
    obtain ⟨hk, ds2, r2, c2, s2⟩ := tiles_rel ih hB fs (i0 + 1) (k + P.cellsOf f.type) tot ht.2 hp.2 hl (fun i f' hf => by
      have := hx (i + 1) f' (by simpa using hf)
      rwa [show i0 + (i + 1) = i0 + 1 + i by omega] at this)
    obtain ⟨x, hx1, hx2⟩ := hx 0 f rfl
    obtain ⟨ds1, r1, c1, s1, l1⟩ := ih f.type _ x.1 x.2 hp.1 hx2 (hB x (List.mem_of_getElem? hx1))
    rw [ht.1] at r1 l1
    have hsp : cs.drop k = (cs.drop k).take (P.cellsOf f.type) ++ cs.drop (k + P.cellsOf f.type) := by
      have e := (List.take_append_drop (P.cellsOf f.type) (cs.drop k)).symm
      rw [List.drop_drop] at e
      exact e
    have hl1 : ds1.length = P.cellsOf f.type := by rw [r1.len, l1]
    refine ⟨by omega, ds1 ++ ds2, ?_, by rw [List.all_append, c1, c2]; rfl, ?_⟩
    · rw [hsp]; exact r1.append r2
    · intro i f' hf
      cases i with
      | zero =>
        cases hf
        refine ⟨by omega, ?_⟩
        rw [ht.1, Nat.sub_self, List.drop_zero, List.take_append_of_le_length (by omega), List.take_of_length_le (by omega)]
        exact s1
      | succ i =>
        obtain ⟨q1, q2⟩ := s2 i f' (by simpa using hf)
        refine ⟨by omega, ?_⟩
        rw [List.drop_append, List.drop_eq_nil_of_le (by omega), List.nil_append, hl1, show f'.offset - k - P.cellsOf f.type = f'.offset - (k + P.cellsOf f.type) by omega]
        exact q2

/-- Whatever plain data is read in memory has a clean form. -/
theorem any_rel {H : Type} {enc : TypeId × Value → H} {P : Program} {W : World} {held : Bool} {B : Nat} : ∀ (n m : Nat) (t : TypeId) (cs : List Value) (d : DataW H) (ps : List MemPlace), plainTy P n t = true →
    DataW.trod enc P W 0 (fun _ => true) held m t cs = some (d, ps) → Rows.uptoBulk d ≤ B + 1 → ∃ ds, RelL (gh0 W) ds cs ∧ ds.all DV.cell = true ∧ Sh P B n t ds ∧ cs.length = P.cellsOf t
  | 0, m, t, cs, d, ps, hp, _, _ => by simp [plainTy] at hp
  | n + 1, m, t, cs, d, ps, hp, h, hb => by
    unfold plainTy at hp
    unfold Sh
    split at hp
    · rename_i ht
      obtain ⟨b, rfl, _⟩ := DataW.trod_bool ht h
      exact ⟨_, .cons (.sc _) (.nil _), rfl, ⟨b, rfl⟩, by simpa using (beq_iff_eq.1 hp).symm⟩
    · rename_i k ht
      obtain ⟨x, rfl, _, hw⟩ := DataW.trod_int ht h
      simp only [Lit.wf, Bool.and_eq_true, decide_eq_true_eq] at hw
      exact ⟨_, .cons (.sc _) (.nil _), rfl, ⟨x, rfl, hw.1, hw.2⟩, by simpa using (beq_iff_eq.1 hp).symm⟩
    · rename_i ht
      obtain ⟨s, rfl, hx, _⟩ := DataW.trod_string ht h
      cases hx
      refine ⟨_, .cons (.sc _) (.nil _), rfl, ⟨bs s, rfl, ?_⟩, by simpa using (beq_iff_eq.1 hp).symm⟩
      simp only [Rows.uptoBulk] at hb
      show s.data.toList.length ≤ B
      omega
    · rename_i e ht
      simp only [Bool.and_eq_true, beq_iff_eq, decide_eq_true_eq] at hp
      obtain ⟨⟨hp1, hp2⟩, hp3⟩ := hp
      rcases DataW.trod_slice ht h with ⟨rfl, hx⟩ | ⟨a, len, cap, elems, rest, q, rfl, rfl, hx, _, hlc, _, hel, hat, _, _⟩
      · exact ⟨_, .cons .empty (.nil _), rfl, ⟨[], rfl, by simp, by simp⟩, by simpa using hp1.symm⟩
      · have hd : d = .slice (elems.map (·.1)) (rest.map (·.1)) := congrArg Prod.fst hx
        subst hd
        simp only [Rows.uptoBulk] at hb
        have hlB : len ≤ B := by
          have := bulk_len (elems.map (·.1))
          rw [List.length_map] at this
          omega
        by_cases hz : len = 0
        · subst hz
          exact ⟨_, .cons .empty (.nil _), rfl, ⟨[], rfl, by simp, by simp⟩, by simpa using hp1.symm⟩
        obtain ⟨b, off, sp⟩ := a
        have hcell : ∀ i, i < len → ∃ ds cs, RelL (gh0 W) ds cs ∧ ds.length = P.cellsOf e ∧ ds.all DV.cell = true ∧ Sh P B n e ds ∧ ∀ k v, cs[k]? = some v → W.cell? ((Addr.mk b off sp).add (i * P.cellsOf e) |>.add k) = some v ∧ v.oneCell' = true := by
          intro i hi
          have h1 := hat i hi
          have h2 : elems[i]? = some (elems[i]'(by omega)) := List.getElem?_eq_getElem (by omega)
          rw [h2, Option.bind_eq_some_iff] at h1
          obtain ⟨cs, c1, c2⟩ := h1
          obtain ⟨_, c3, c4⟩ := World.cells?_some c1
          have hbi : Rows.uptoBulk (elems[i]'(by omega)).1 ≤ B + 1 := by
            have := bulk_get (l := elems.map (·.1)) (d := (elems[i]'(by omega)).1) (List.mem_map_of_mem (List.getElem_mem _))
            omega
          obtain ⟨ds, r1, r2, r3, r4⟩ := any_rel n q e cs _ _ hp3 c2 hbi
          refine ⟨ds, cs, r1, by rw [r1.len, r4], r2, r3, fun k v hv => ?_⟩
          have hk : k < P.cellsOf e := by rw [← c3]; exact (List.getElem?_eq_some_iff.1 hv).1
          exact ⟨(c4 k hk).trans hv, relL_one r1 r2 v (List.mem_of_getElem? hv)⟩
        have hsp : sp = none := by
          obtain ⟨ds, cs, r1, r2, _, _, r5⟩ := hcell 0 (by omega)
          have : cs ≠ [] := fun e0 => by
            have h0 := r1.len
            rw [e0, r2, List.length_nil] at h0
            omega
          obtain ⟨v, hv⟩ : ∃ v, cs[0]? = some v := ⟨cs[0]'(List.length_pos_iff.2 this), List.getElem?_eq_getElem _⟩
          have := (r5 0 v hv).1
          cases sp with
          | none => rfl
          | some _ =>
            simp [World.cell?, Addr.add] at this
            split at this <;> simp at this
        subst hsp
        have hadd : ∀ i k : Nat, ((Addr.mk b off none).add i).add k = ⟨b, off + i + k, none⟩ := fun i k => by
          by_cases hi : i = 0 <;> by_cases hk : k = 0 <;> simp [Addr.add, hi, hk]
        obtain ⟨l, vs, l1, l2, l3, l4⟩ := rows_list (g := gh0 W) (b := b) (off := off) (es := P.cellsOf e) (Q := fun ds => ds.all DV.cell = true ∧ Sh P B n e ds) len fun i hi => by
          obtain ⟨ds, cs, r1, r2, r3, r4, r5⟩ := hcell i hi
          refine ⟨ds, cs, r1, r2, fun k v hv => ?_, r3, r4⟩
          obtain ⟨q1, q2⟩ := r5 k v hv
          rw [hadd] at q1
          exact gh0_pc q1 q2
        refine ⟨[.list false (P.cellsOf e) l], .cons ?_ (.nil _), rfl, ⟨l, rfl, by omega, fun r hr => (l2 r hr).2.2⟩, by simpa using hp1.symm⟩
        rw [← l1]
        exact .list (by omega) (fun r hr => (l2 r hr).1) l3.len l3.at_ l4
    · rename_i fs ht
      simp only [Bool.and_eq_true] at hp
      obtain ⟨xs, q, rfl, hx, hcl, hxl, hf⟩ := DataW.trod_struct ht h
      have hd : d = .agg (xs.map (·.1)) := congrArg Prod.fst hx
      subst hd
      simp only [Rows.uptoBulk] at hb
      obtain ⟨_, ds, r1, r2, r3⟩ := tiles_rel (g := gh0 W) (B := B) (n := n) (m := q) (cs := cs) (xs := xs) (fun t cs d ps => any_rel n q t cs d ps) (fun x hx => by
        have := bulk_get (l := xs.map (·.1)) (d := x.1) (List.mem_map_of_mem hx)
        omega) fs.toList 0 0 (P.cellsOf t) hp.1 hp.2 hcl (fun i f hi => by
          have hi' : fs[i]? = some f := by simpa using hi
          have := hf i f hi'
          have hlt : i < xs.length := by rw [hxl]; exact (Array.getElem?_eq_some_iff.1 hi').1
          rw [Nat.zero_add]
          exact ⟨xs[i], List.getElem?_eq_getElem hlt, this.trans (List.getElem?_eq_getElem hlt)⟩)
      rw [List.drop_zero] at r1
      refine ⟨ds, r1, r2, ⟨by rw [r1.len, hcl], fun i f hi => ?_⟩, hcl⟩
      have := (r3 i f (by simpa using hi)).2
      simpa using this
    · cases hp
end Go.DS

/-
  Arguments of this program's types, opened.
-/
namespace Go.DS
open Go Go.Proofs Go.ChangeShapes Go.WideShapes Go.RowKit Go.Proofs.Ytpbknejlalkfjaa Go.Deep
set_option linter.unusedVariables false
set_option maxRecDepth 100000
set_option linter.unusedSimpArgs false
theorem sh_at {P : Program} {B n : Nat} {fs : Array Field} {ds : List DV} (hf : ∀ (i : Nat) (f : Field), fs[i]? = some f → Sh P B n f.type ((ds.drop f.offset).take (P.cellsOf f.type))) (i : Nat) (f : Field) (hi : fs[i]? = some f) (hc : P.cellsOf f.type = 1) (d : DV) (hd : ds[f.offset]? = some d) : Sh P B n f.type [d] := by
  have := hf i f hi
  obtain ⟨hl, rfl⟩ := List.getElem?_eq_some_iff.1 hd
  rw [hc, List.drop_eq_getElem_cons hl] at this
  exact this
def In64 (m : Int) : Prop := -9223372036854775808 ≤ m ∧ m ≤ 9223372036854775807
theorem in64 {m : Int} (h : IntKind.min .i64 ≤ m ∧ m ≤ IntKind.max .i64) : In64 m := by
  have e1 : IntKind.min .i64 = -9223372036854775808 := by decide
  have e2 : IntKind.max .i64 = 9223372036854775807 := by decide
  rw [e1, e2] at h
  exact h
/-- An argument of a struct. -/
theorem arg_struct {H : Type} {enc : TypeId × Value → H} {P : Program} {W : World} {held : Bool} {B base n : Nat} {t : TypeId} {fs : Array Field} {v : Value} {d : DataW H} {ps : List MemPlace} (ht : P.underlying t = some (.struct fs)) (hp : plainTy P n t = true)
    (hv : Value.okWide P W .any base t v) (h : DataW.Trod enc P W 0 (fun _ => true) held t v d ps) (hb : Rows.uptoBulk d ≤ B + 1) : ∃ ds, RelV (gh0 W) (.agg ds) v ∧ Sh P B n t ds := by
  obtain ⟨cs, rfl, _⟩ := okWide_struct ht hv
  obtain ⟨m, hm⟩ := h
  obtain ⟨ds, r1, _, r3, _⟩ := any_rel n m t _ d ps hp hm hb
  refine ⟨ds, ?_, r3⟩
  have := RelV.agg r1.len r1.at_
  simpa [Value.cells] using this
/-- An argument of a slice. -/
theorem arg_slice {H : Type} {enc : TypeId × Value → H} {P : Program} {W : World} {held : Bool} {B base n : Nat} {t e : TypeId} {v : Value} {d : DataW H} {ps : List MemPlace} (ht : P.underlying t = some (.slice e)) (hp : plainTy P (n + 1) t = true)
    (hv : Value.okWide P W .any base t v) (h : DataW.Trod enc P W 0 (fun _ => true) held t v d ps) (hb : Rows.uptoBulk d ≤ B + 1) : ∃ l, RelV (gh0 W) (.list false (P.cellsOf e) l) v ∧ l.length ≤ B ∧ ∀ r ∈ l, Sh P B n e r := by
  obtain ⟨a, len, cap, rfl⟩ := okWide_slice ht hv
  obtain ⟨m, hm⟩ := h
  obtain ⟨ds, r1, _, r3, _⟩ := any_rel (n + 1) m t _ d ps hp hm hb
  obtain ⟨l, rfl, h1, h2⟩ := sh_slice ht r3
  refine ⟨l, ?_, h1, h2⟩
  have r1' : RelL (gh0 W) [.list false (P.cellsOf e) l] [.slice a len cap] := by simpa [Value.cells] using r1
  exact r1'.at_ 0 _ _ rfl rfl
theorem rows_map {α : Type} {Q : List DV → Prop} {F : α → List DV} {R : α → Prop} (h : ∀ r, Q r → ∃ x, r = F x ∧ R x) : ∀ l : List (List DV), (∀ r ∈ l, Q r) → ∃ m : List α, l = m.map F ∧ (∀ x ∈ m, R x) ∧ m.length = l.length
  | [], _ => ⟨[], rfl, by simp, rfl⟩
  | r :: l, hl => by
    obtain ⟨m, rfl, h2, h3⟩ := rows_map h l fun x hx => hl x (List.mem_cons_of_mem _ hx)
    obtain ⟨x, rfl, h4⟩ := h r (hl r List.mem_cons_self)
    exact ⟨x :: m, rfl, fun y hy => by rcases List.mem_cons.1 hy with rfl | hy; exact h4; exact h2 y hy, by simp⟩
structure CmdOK (B : Nat) (c : Cmd) : Prop where
  path : c.path.length ≤ B
  value : c.value.length ≤ B
  client : In64 c.client
  seq : In64 c.seq
  op : In64 c.op
  version : In64 c.version
  a : In64 c.a
  b : In64 c.b
theorem cmd_of {B n : Nat} {ds : List DV} (h : Sh Try.prog B (n + 2) 33 ds) : ∃ c : Cmd, ds = cmdL c ∧ CmdOK B c := by
  obtain ⟨hl, hf⟩ := sh_struct Try.underlying33 h
  have hl' : ds.length = 8 := hl.trans (by kernel_rfl)
  match ds, hl' with
  | [d0, d1, d2, d3, d4, d5, d6, d7], _ =>
    obtain ⟨x0, e0, r0⟩ := sh_int Try.underlying3 (sh_at hf 0 _ rfl (by kernel_rfl) d0 rfl)
    obtain ⟨x1, e1, r1⟩ := sh_int Try.underlying3 (sh_at hf 1 _ rfl (by kernel_rfl) d1 rfl)
    obtain ⟨x2, e2, r2⟩ := sh_int Try.underlying31 (sh_at hf 2 _ rfl (by kernel_rfl) d2 rfl)
    obtain ⟨x3, e3, r3⟩ := sh_str Try.underlying9 (sh_at hf 3 _ rfl (by kernel_rfl) d3 rfl)
    obtain ⟨x4, e4, r4⟩ := sh_str Try.underlying9 (sh_at hf 4 _ rfl (by kernel_rfl) d4 rfl)
    obtain ⟨x5, e5, r5⟩ := sh_int Try.underlying3 (sh_at hf 5 _ rfl (by kernel_rfl) d5 rfl)
    obtain ⟨x6, e6, r6⟩ := sh_int Try.underlying3 (sh_at hf 6 _ rfl (by kernel_rfl) d6 rfl)
    obtain ⟨x7, e7, r7⟩ := sh_int Try.underlying3 (sh_at hf 7 _ rfl (by kernel_rfl) d7 rfl)
    cases e0; cases e1; cases e2; cases e3; cases e4; cases e5; cases e6; cases e7
    exact ⟨⟨x0, x1, x2, x3, x4, x5, x6, x7⟩, rfl, r3, r4, in64 r0, in64 r1, in64 r2, in64 r5, in64 r6, in64 r7⟩
theorem arg_cmd {H : Type} {enc : TypeId × Value → H} {W : World} {held : Bool} {B base : Nat} {v : Value} {d : DataW H} {ps : List MemPlace} (hv : Value.okWide Try.prog W .any base 33 v)
    (h : DataW.Trod enc Try.prog W 0 (fun _ => true) held 33 v d ps) (hb : Rows.uptoBulk d ≤ B + 1) : ∃ c : Cmd, RelV (gh0 W) (cmdD c) v ∧ CmdOK B c := by
  obtain ⟨ds, r1, r2⟩ := arg_struct (n := 2) Try.underlying33 (by kernel_rfl) hv h hb
  obtain ⟨c, rfl, hc⟩ := cmd_of r2
  exact ⟨c, r1, hc⟩
end Go.DS

/-
  Arguments of this program's types: instances, attributes.
-/
namespace Go.DS
open Go Go.Proofs Go.ChangeShapes Go.WideShapes Go.RowKit Go.Proofs.Ytpbknejlalkfjaa Go.Deep
set_option linter.unusedVariables false
set_option maxRecDepth 100000
set_option linter.unusedSimpArgs false
theorem sh_sub {P : Program} {B n : Nat} {fs : Array Field} {ds : List DV} (hf : ∀ (i : Nat) (f : Field), fs[i]? = some f → Sh P B n f.type ((ds.drop f.offset).take (P.cellsOf f.type))) (i : Nat) (f : Field) (hi : fs[i]? = some f) (k : Nat) (hc : P.cellsOf f.type = k) (l : List DV) (hl : (ds.drop f.offset).take k = l) : Sh P B n f.type l := by
  rw [← hl, ← hc]; exact hf i f hi
structure IdOK (x : Id) : Prop where
  e : In64 x.e
  n : In64 x.n
  k : In64 x.k
theorem id_of {B n : Nat} {ds : List DV} (h : Sh Try.prog B (n + 2) 27 ds) : ∃ x : Id, ds = idL x ∧ IdOK x := by
  obtain ⟨hl, hf⟩ := sh_struct Try.underlying27 h
  have hl' : ds.length = 3 := hl.trans (by kernel_rfl)
  match ds, hl' with
  | [d0, d1, d2], _ =>
    obtain ⟨x0, e0, r0⟩ := sh_int Try.underlying3 (sh_at hf 0 _ rfl (by kernel_rfl) d0 rfl)
    obtain ⟨x1, e1, r1⟩ := sh_int Try.underlying3 (sh_at hf 1 _ rfl (by kernel_rfl) d1 rfl)
    obtain ⟨x2, e2, r2⟩ := sh_int Try.underlying3 (sh_at hf 2 _ rfl (by kernel_rfl) d2 rfl)
    cases e0; cases e1; cases e2
    exact ⟨⟨x0, x1, x2⟩, rfl, in64 r0, in64 r1, in64 r2⟩
theorem ids_of {B n : Nat} {ds : List DV} (h : Sh Try.prog B (n + 3) 34 ds) : ∃ l : List Id, ds = [.list false 3 (idr l)] ∧ l.length ≤ B ∧ ∀ x ∈ l, IdOK x := by
  obtain ⟨l, rfl, h1, h2⟩ := sh_slice Try.underlying34 h
  obtain ⟨m, rfl, h3, h4⟩ := rows_map (fun r hr => id_of hr) l h2
  have e : Try.prog.cellsOf 27 = 3 := by kernel_rfl
  exact ⟨m, by rw [e]; rfl, by simpa using h1, h3⟩
structure AttOK (B : Nat) (a : Att) : Prop where
  seq : In64 a.seq
  len : a.deps.length ≤ B
  deps : ∀ x ∈ a.deps, IdOK x
theorem att_of {B n : Nat} {ds : List DV} (h : Sh Try.prog B (n + 4) 36 ds) : ∃ a : Att, ds = attL a ∧ AttOK B a := by
  obtain ⟨hl, hf⟩ := sh_struct Try.underlying36 h
  have hl' : ds.length = 2 := hl.trans (by kernel_rfl)
  match ds, hl' with
  | [d0, d1], _ =>
    obtain ⟨x0, e0, r0⟩ := sh_int Try.underlying3 (sh_at hf 0 _ rfl (by kernel_rfl) d0 rfl)
    obtain ⟨x1, e1, r1, r1'⟩ := ids_of (n := n) (sh_at hf 1 _ rfl (by kernel_rfl) d1 rfl)
    cases e0; cases e1
    exact ⟨⟨x0, x1⟩, rfl, in64 r0, r1, r1'⟩
structure KnoOK (B : Nat) (x : Kno) : Prop where
  id : IdOK x.id
  cmd : CmdOK B x.cmd
  att : AttOK B x.att
section
variable {H : Type} {enc : TypeId × Value → H} {W : World} {held : Bool} {B base : Nat} {v : Value} {d : DataW H} {ps : List MemPlace}
theorem arg_id (hv : Value.okWide Try.prog W .any base 27 v) (h : DataW.Trod enc Try.prog W 0 (fun _ => true) held 27 v d ps) (hb : Rows.uptoBulk d ≤ B + 1) : ∃ x : Id, RelV (gh0 W) (.agg [vi x.e, vi x.n, vi x.k]) v ∧ IdOK x := by
  obtain ⟨ds, r1, r2⟩ := arg_struct (n := 2) Try.underlying27 (by kernel_rfl) hv h hb
  obtain ⟨c, rfl, hc⟩ := id_of (n := 0) r2
  exact ⟨c, r1, hc⟩
theorem arg_att (hv : Value.okWide Try.prog W .any base 36 v) (h : DataW.Trod enc Try.prog W 0 (fun _ => true) held 36 v d ps) (hb : Rows.uptoBulk d ≤ B + 1) : ∃ x : Att, RelV (gh0 W) (attD x) v ∧ AttOK B x := by
  obtain ⟨ds, r1, r2⟩ := arg_struct (n := 4) Try.underlying36 (by kernel_rfl) hv h hb
  obtain ⟨c, rfl, hc⟩ := att_of (n := 0) r2
  exact ⟨c, r1, hc⟩
end
end Go.DS

/-
  Arguments of this program's types: configurations, messages.
-/
namespace Go.DS
open Go Go.Proofs Go.ChangeShapes Go.WideShapes Go.RowKit Go.Proofs.Ytpbknejlalkfjaa Go.Deep
set_option linter.unusedVariables false
set_option maxRecDepth 100000
set_option linter.unusedSimpArgs false
theorem ints_of {B n : Nat} {ds : List DV} (h : Sh Try.prog B (n + 2) 22 ds) : ∃ l : List Int, ds = [.list false 1 (vnums l)] ∧ l.length ≤ B ∧ ∀ x ∈ l, In64 x := by
  obtain ⟨l, rfl, h1, h2⟩ := sh_slice Try.underlying22 h
  obtain ⟨m, rfl, h3, h4⟩ := rows_map (F := fun x : Int => [vi x]) (R := In64) (fun r hr => by
    obtain ⟨x, e, q⟩ := sh_int Try.underlying3 hr
    exact ⟨x, e, in64 q⟩) l h2
  have e : Try.prog.cellsOf 3 = 1 := by kernel_rfl
  exact ⟨m, by rw [e]; rfl, by simpa using h1, h3⟩
theorem strs_of {B n : Nat} {ds : List DV} (h : Sh Try.prog B (n + 2) 106 ds) : ∃ l : List Str, ds = [.list false 1 (ts l)] ∧ l.length ≤ B := by
  obtain ⟨l, rfl, h1, h2⟩ := sh_slice Try.underlying106 h
  obtain ⟨m, rfl, h3, h4⟩ := rows_map (F := fun x : Str => [vs x]) (R := fun _ => True) (fun r hr => by
    obtain ⟨x, e, q⟩ := sh_str Try.underlying9 hr
    exact ⟨x, e, trivial⟩) l h2
  have e : Try.prog.cellsOf 9 = 1 := by kernel_rfl
  exact ⟨m, by rw [e]; rfl, by simpa using h1⟩
structure ConOK (B : Nat) (c : Con) : Prop where
  epoch : In64 c.epoch
  len : c.nodes.length ≤ B
  nodes : ∀ x ∈ c.nodes, In64 x
abbrev conL (c : Con) : List DV := [vi c.epoch, .list false 1 (vnums c.nodes)]
theorem con_of {B n : Nat} {ds : List DV} (h : Sh Try.prog B (n + 3) 24 ds) : ∃ c : Con, ds = conL c ∧ ConOK B c := by
  obtain ⟨hl, hf⟩ := sh_struct Try.underlying24 h
  have hl' : ds.length = 2 := hl.trans (by kernel_rfl)
  match ds, hl' with
  | [d0, d1], _ =>
    obtain ⟨x0, e0, r0⟩ := sh_int Try.underlying3 (sh_at hf 0 _ rfl (by kernel_rfl) d0 rfl)
    obtain ⟨x1, e1, r1, r1'⟩ := ints_of (n := n) (sh_at hf 1 _ rfl (by kernel_rfl) d1 rfl)
    cases e0; cases e1
    exact ⟨⟨x0, x1⟩, rfl, in64 r0, r1, r1'⟩
abbrev balL (b : Bal) : List DV := [vi b.no, vi b.node]
theorem bal_of {B n : Nat} {ds : List DV} (h : Sh Try.prog B (n + 2) 29 ds) : ∃ x : Bal, ds = balL x ∧ True := by
  obtain ⟨hl, hf⟩ := sh_struct Try.underlying29 h
  have hl' : ds.length = 2 := hl.trans (by kernel_rfl)
  match ds, hl' with
  | [d0, d1], _ =>
    obtain ⟨x0, e0, r0⟩ := sh_int Try.underlying3 (sh_at hf 0 _ rfl (by kernel_rfl) d0 rfl)
    obtain ⟨x1, e1, r1⟩ := sh_int Try.underlying3 (sh_at hf 1 _ rfl (by kernel_rfl) d1 rfl)
    cases e0; cases e1
    exact ⟨⟨x0, x1⟩, rfl, trivial⟩
theorem ins_of {B n : Nat} {ds : List DV} (h : Sh Try.prog B (n + 5) 38 ds) : ∃ x : Ins, ds = insL x ∧ True := by
  obtain ⟨hl, hf⟩ := sh_struct Try.underlying38 h
  have hl' : ds.length = 15 := hl.trans (by kernel_rfl)
  match ds, hl' with
  | [d0, d1, d2, d3, d4, d5, d6, d7, d8, d9, d10, d11, d12, d13, d14], _ =>
    obtain ⟨x0, e0, r0⟩ := sh_int Try.underlying30 (sh_at hf 0 _ rfl (by kernel_rfl) d0 rfl)
    obtain ⟨x1, e1, r1⟩ := bal_of (n := n + 2) (sh_sub hf 1 _ rfl 2 (by kernel_rfl) [d1, d2] rfl)
    obtain ⟨x2, e2, r2⟩ := bal_of (n := n + 2) (sh_sub hf 2 _ rfl 2 (by kernel_rfl) [d3, d4] rfl)
    obtain ⟨x3, e3, r3⟩ := cmd_of (n := n + 2) (sh_sub hf 3 _ rfl 8 (by kernel_rfl) [d5, d6, d7, d8, d9, d10, d11, d12] rfl)
    obtain ⟨x4, e4, r4⟩ := att_of (n := n) (sh_sub hf 4 _ rfl 2 (by kernel_rfl) [d13, d14] rfl)
    cases e0; cases e1; cases e2; cases e3; cases e4
    exact ⟨⟨x0, x1, x2, x3, x4⟩, rfl, trivial⟩
abbrev entL (e : PEnt) : List DV := [vs e.path, vs e.value, vi e.ver]
theorem ent_of {B n : Nat} {ds : List DV} (h : Sh Try.prog B (n + 2) 104 ds) : ∃ x : PEnt, ds = entL x ∧ True := by
  obtain ⟨hl, hf⟩ := sh_struct Try.underlying104 h
  have hl' : ds.length = 3 := hl.trans (by kernel_rfl)
  match ds, hl' with
  | [d0, d1, d2], _ =>
    obtain ⟨x0, e0, r0⟩ := sh_str Try.underlying9 (sh_at hf 0 _ rfl (by kernel_rfl) d0 rfl)
    obtain ⟨x1, e1, r1⟩ := sh_str Try.underlying9 (sh_at hf 1 _ rfl (by kernel_rfl) d1 rfl)
    obtain ⟨x2, e2, r2⟩ := sh_int Try.underlying3 (sh_at hf 2 _ rfl (by kernel_rfl) d2 rfl)
    cases e0; cases e1; cases e2
    exact ⟨⟨x0, x1, x2⟩, rfl, trivial⟩
abbrev repL (r : Int × Str × Int × List Str) : List DV := [vi r.1, vs r.2.1, vi r.2.2.1, .list false 1 (ts r.2.2.2)]
theorem rep_of {B n : Nat} {ds : List DV} (h : Sh Try.prog B (n + 3) 108 ds) : ∃ x : Int × Str × Int × List Str, ds = repL x ∧ True := by
  obtain ⟨hl, hf⟩ := sh_struct Try.underlying108 h
  have hl' : ds.length = 4 := hl.trans (by kernel_rfl)
  match ds, hl' with
  | [d0, d1, d2, d3], _ =>
    obtain ⟨x0, e0, r0⟩ := sh_int Try.underlying105 (sh_at hf 0 _ rfl (by kernel_rfl) d0 rfl)
    obtain ⟨x1, e1, r1⟩ := sh_str Try.underlying9 (sh_at hf 1 _ rfl (by kernel_rfl) d1 rfl)
    obtain ⟨x2, e2, r2⟩ := sh_int Try.underlying3 (sh_at hf 2 _ rfl (by kernel_rfl) d2 rfl)
    obtain ⟨x3, e3, r3⟩ := strs_of (n := n) (sh_at hf 3 _ rfl (by kernel_rfl) d3 rfl)
    cases e0; cases e1; cases e2; cases e3
    exact ⟨(x0, x1, x2, x3), rfl, trivial⟩
abbrev sesL (e : PSes) : List DV := [vi e.client, vi e.seq, vi e.err, vs e.value, vi e.ver, .list false 1 (ts e.names)]
theorem ses_of {B n : Nat} {ds : List DV} (h : Sh Try.prog B (n + 4) 110 ds) : ∃ x : PSes, ds = sesL x ∧ True := by
  obtain ⟨hl, hf⟩ := sh_struct Try.underlying110 h
  have hl' : ds.length = 6 := hl.trans (by kernel_rfl)
  match ds, hl' with
  | [d0, d1, d2, d3, d4, d5], _ =>
    obtain ⟨x0, e0, r0⟩ := sh_int Try.underlying3 (sh_at hf 0 _ rfl (by kernel_rfl) d0 rfl)
    obtain ⟨x1, e1, r1⟩ := sh_int Try.underlying3 (sh_at hf 1 _ rfl (by kernel_rfl) d1 rfl)
    obtain ⟨x2, e2, r2⟩ := rep_of (n := n) (sh_sub hf 2 _ rfl 4 (by kernel_rfl) [d2, d3, d4, d5] rfl)
    cases e0; cases e1; cases e2
    exact ⟨⟨x0, x1, x2.1, x2.2.1, x2.2.2.1, x2.2.2.2⟩, rfl, trivial⟩
theorem ents_of {B n : Nat} {ds : List DV} (h : Sh Try.prog B (n + 3) 39 ds) : ∃ l : List PEnt, ds = [.list false 3 (pes l)] ∧ l.length ≤ B := by
  obtain ⟨l, rfl, h1, h2⟩ := sh_slice Try.underlying39 h
  obtain ⟨m, rfl, h3, h4⟩ := rows_map (F := entL) (R := fun _ => True) (fun r hr => ent_of (n := n) hr) l h2
  have e : Try.prog.cellsOf 104 = 3 := by kernel_rfl
  exact ⟨m, by rw [e]; rfl, by simpa using h1⟩
theorem sess_of {B n : Nat} {ds : List DV} (h : Sh Try.prog B (n + 5) 40 ds) : ∃ l : List PSes, ds = [.list false 6 (pss l)] ∧ l.length ≤ B := by
  obtain ⟨l, rfl, h1, h2⟩ := sh_slice Try.underlying40 h
  obtain ⟨m, rfl, h3, h4⟩ := rows_map (F := sesL) (R := fun _ => True) (fun r hr => ses_of (n := n) hr) l h2
  have e : Try.prog.cellsOf 110 = 6 := by kernel_rfl
  exact ⟨m, by rw [e]; rfl, by simpa using h1⟩
abbrev snpL (s : Snp) : List DV := [vi s.con.epoch, .list false 1 (vnums s.con.nodes), .list false 3 (pes s.paths), .list false 6 (pss s.sess)]
theorem snp_of {B n : Nat} {ds : List DV} (h : Sh Try.prog B (n + 6) 42 ds) : ∃ x : Snp, ds = snpL x ∧ True := by
  obtain ⟨hl, hf⟩ := sh_struct Try.underlying42 h
  have hl' : ds.length = 4 := hl.trans (by kernel_rfl)
  match ds, hl' with
  | [d0, d1, d2, d3], _ =>
    obtain ⟨x0, e0, r0⟩ := con_of (n := n + 2) (sh_sub hf 0 _ rfl 2 (by kernel_rfl) [d0, d1] rfl)
    obtain ⟨x1, e1, r1⟩ := ents_of (n := n + 2) (sh_at hf 1 _ rfl (by kernel_rfl) d2 rfl)
    obtain ⟨x2, e2, r2⟩ := sess_of (n := n) (sh_at hf 2 _ rfl (by kernel_rfl) d3 rfl)
    cases e0; cases e1; cases e2
    exact ⟨⟨x0, x1, x2⟩, rfl, trivial⟩
theorem mes_of {B n : Nat} {ds : List DV} (h : Sh Try.prog B (n + 7) 44 ds) : ∃ x : Mes, ds = mesL x ∧ True := by
  obtain ⟨hl, hf⟩ := sh_struct Try.underlying44 h
  have hl' : ds.length = 27 := hl.trans (by kernel_rfl)
  match ds, hl' with
  | [d0, d1, d2, d3, d4, d5, d6, d7, d8, d9, d10, d11, d12, d13, d14, d15, d16, d17, d18, d19, d20, d21, d22, d23, d24, d25, d26], _ =>
    obtain ⟨x0, e0, r0⟩ := sh_int Try.underlying25 (sh_at hf 0 _ rfl (by kernel_rfl) d0 rfl)
    obtain ⟨x1, e1, r1⟩ := sh_int Try.underlying3 (sh_at hf 1 _ rfl (by kernel_rfl) d1 rfl)
    obtain ⟨x2, e2, r2⟩ := sh_int Try.underlying3 (sh_at hf 2 _ rfl (by kernel_rfl) d2 rfl)
    obtain ⟨x3, e3, r3⟩ := id_of (n := n + 4) (sh_sub hf 3 _ rfl 3 (by kernel_rfl) [d3, d4, d5] rfl)
    obtain ⟨x4, e4, r4⟩ := bal_of (n := n + 4) (sh_sub hf 4 _ rfl 2 (by kernel_rfl) [d6, d7] rfl)
    obtain ⟨x5, e5, r5⟩ := ins_of (n := n + 1) (sh_sub hf 5 _ rfl 15 (by kernel_rfl) [d8, d9, d10, d11, d12, d13, d14, d15, d16, d17, d18, d19, d20, d21, d22] rfl)
    obtain ⟨x6, e6, r6⟩ := snp_of (n := n) (sh_sub hf 6 _ rfl 4 (by kernel_rfl) [d23, d24, d25, d26] rfl)
    cases e0; cases e1; cases e2; cases e3; cases e4; cases e5; cases e6
    exact ⟨⟨x0, x1, x2, x3, x4, x5, x6⟩, rfl, trivial⟩
section
variable {H : Type} {enc : TypeId × Value → H} {W : World} {held : Bool} {B base : Nat} {v : Value} {d : DataW H} {ps : List MemPlace}
theorem arg_con (hv : Value.okWide Try.prog W .any base 24 v) (h : DataW.Trod enc Try.prog W 0 (fun _ => true) held 24 v d ps) (hb : Rows.uptoBulk d ≤ B + 1) : ∃ c : Con, RelV (gh0 W) (.agg [vi c.epoch, .list false 1 (vnums c.nodes)]) v ∧ ConOK B c := by
  obtain ⟨ds, r1, r2⟩ := arg_struct (n := 3) Try.underlying24 (by kernel_rfl) hv h hb
  obtain ⟨c, rfl, hc⟩ := con_of (n := 0) r2
  exact ⟨c, r1, hc⟩
theorem arg_bal (hv : Value.okWide Try.prog W .any base 29 v) (h : DataW.Trod enc Try.prog W 0 (fun _ => true) held 29 v d ps) (hb : Rows.uptoBulk d ≤ B + 1) : ∃ b : Bal, RelV (gh0 W) (.agg [vi b.no, vi b.node]) v ∧ True := by
  obtain ⟨ds, r1, r2⟩ := arg_struct (n := 2) Try.underlying29 (by kernel_rfl) hv h hb
  obtain ⟨c, rfl, hc⟩ := bal_of (n := 0) r2
  exact ⟨c, r1, hc⟩
theorem arg_mes (hv : Value.okWide Try.prog W .any base 44 v) (h : DataW.Trod enc Try.prog W 0 (fun _ => true) held 44 v d ps) (hb : Rows.uptoBulk d ≤ B + 1) : ∃ m : Mes, RelV (gh0 W) (mesD m) v ∧ True := by
  obtain ⟨ds, r1, r2⟩ := arg_struct (n := 7) Try.underlying44 (by kernel_rfl) hv h hb
  obtain ⟨c, rfl, hc⟩ := mes_of (n := 0) r2
  exact ⟨c, r1, hc⟩
theorem arg_mess (hv : Value.okWide Try.prog W .any base 45 v) (h : DataW.Trod enc Try.prog W 0 (fun _ => true) held 45 v d ps) (hb : Rows.uptoBulk d ≤ B + 1) : ∃ l : List Mes, RelV (gh0 W) (.list false 27 (mess l)) v ∧ l.length ≤ B := by
  obtain ⟨l, r1, r2, r3⟩ := arg_slice (n := 7) Try.underlying45 (by kernel_rfl) hv h hb
  obtain ⟨m, rfl, h1, h2⟩ := rows_map (F := mesL) (R := fun _ => True) (fun r hr => mes_of (n := 0) hr) l r3
  refine ⟨m, ?_, by omega⟩
  have e : Try.prog.cellsOf 44 = 27 := by kernel_rfl
  rwa [e] at r1
end
end Go.DS

/-
  Arguments: rows of small whole numbers.
-/
namespace Go.DS
open Go Go.Proofs Go.ChangeShapes Go.WideShapes Go.RowKit Go.Proofs.Ytpbknejlalkfjaa Go.Deep
set_option linter.unusedVariables false
set_option maxRecDepth 100000
set_option linter.unusedSimpArgs false
def u8s (l : List Nat) : List (List DV) := l.map fun n : Nat => [.sc (.int .u8 (n : Int))]
theorem u8s_len (l : List Nat) : (u8s l).length = l.length := by simp [u8s]
theorem free_u8s (l : List Nat) : heapFree.alls (u8s l) = true := by
  unfold u8s
  induction l with
  | nil => rfl
  | cons x l ih => simp [heapFree.alls, heapFree.all, heapFree, ih]
theorem u8s_at {l : List Nat} {k : Nat} (hk : k < l.length) (N : List DV → Prop) : IdxP (u8s l) (Nf (k : Int)) N = N [.sc (.int .u8 (l[k] : Int))] := by
  show IdxP (u8s l) (k : Int) N = _
  rw [idxP_nat]
  have e : k < (u8s l).length := by simp [u8s, hk]
  have e2 : (u8s l)[k] = [.sc (.int .u8 (l[k] : Int))] := by simp [u8s]
  rw [← e2]
  exact propext ⟨fun ⟨_, h⟩ => h, fun h => ⟨e, h⟩⟩
section
variable {H : Type} {enc : TypeId × Value → H} {W : World} {held : Bool} {B base : Nat} {v : Value} {d : DataW H} {ps : List MemPlace}
theorem arg_u8s (hv : Value.okWide Try.prog W .any base 63 v) (h : DataW.Trod enc Try.prog W 0 (fun _ => true) held 63 v d ps) (hb : Rows.uptoBulk d ≤ B + 1) : ∃ l : List Nat, RelV (gh0 W) (.list false 1 (u8s l)) v ∧ l.length ≤ B ∧ ∀ x ∈ l, x < 256 := by
  obtain ⟨l, r1, r2, r3⟩ := arg_slice (n := 1) Try.underlying63 (by kernel_rfl) hv h hb
  obtain ⟨m, rfl, h1, h2⟩ := rows_map (F := fun x : Nat => [DV.sc (.int .u8 (x : Int))]) (R := fun x : Nat => x < 256) (fun r hr => by
    obtain ⟨x, e, q⟩ := sh_int Try.underlying5 hr
    have e1 : IntKind.min .u8 = 0 := by decide
    have e2 : IntKind.max .u8 = 255 := by decide
    rw [e1, e2] at q
    refine ⟨x.toNat, ?_, by omega⟩
    have : ((x.toNat : Nat) : Int) = x := by omega
    rw [this]; exact e) l r3
  refine ⟨m, ?_, by omega, h1⟩
  have e : Try.prog.cellsOf 5 = 1 := by kernel_rfl
  rwa [e] at r1
end
end Go.DS

/-
  Walks: the reference's part of the laws of lead.
-/
namespace Go.DS
open Go Go.Proofs
set_option maxRecDepth 100000
set_option linter.unusedVariables false
set_option linter.unusedSimpArgs false
def cd40 : Cd := .seq (R [cb 4 (.tk (.c (kb false)))] [0, 1]) (.seq (.seq (R [c0 5 (.tk (.c (ki .i64 0)))] [0, 1, 5]) (.block 0 (LP [0, 1, 5] (.seq (.seq (R [c0 6 (.mv (.s 5)), c0 7 (.mv (.s 0)), c0 8 (.len 1 (.s 7)), cb 9 (.bin .lss .any (.s 6) (.s 8))] [0, 1, 5, 9]) (.ite (.s 9) (.skip) (.exit 0))) (.seq (.block 1 (.seq (R [c0 12 (.mv (.s 0)), c0 13 (.mv (.s 5)), c0 14 (.ixp 1 (.s 12) (.s 13)), c0 15 (.ld false 1 (.s 14)), c0 16 (.mv (.s 1)), cb 17 (.bin .eql .any (.s 15) (.s 16))] [0, 1, 5, 17]) (.ite (.s 17) (.seq (R [cb 4 (.tk (.c (kb true)))] [4]) (.ret)) (.skip)))) (R [c0 10 (.mv (.s 5)), c0 11 (.bin .add .any (.s 10) (.c (ki .i64 1))), c0 5 (.tk (.s 11))] [0, 1, 5])))))) (.seq (R [cb 4 (.tk (.c (kb false)))] [4]) (.ret)))
theorem fun40 : Fun Try.prog cfg 40 18 cd40 [.s 4] := ⟨rfl, Try.f40, _, Try.func40, rfl, rfl, by kernel_rfl, by kernel_rfl⟩
@[go_sem] theorem ok40 : calleeOK Try.prog 40 = true := by kernel_rfl
@[go_sem] theorem ex40 : (cfg.ext 40).isSome = false := rfl
def cd16 : Cd := .seq (R [c0 2 (.new false (.s 0)), c0 4 (.tk (.c (ki .i64 0)))] [1, 2]) (.seq (R [c0 5 (.tk (.c (ki .i64 0)))] [1, 2, 5]) (.seq (.seq (R [c0 6 (.tk (.c (ki .i64 0)))] [1, 2, 5, 6]) (.block 0 (LP [1, 2, 5, 6] (.seq (.seq (R [c0 7 (.mv (.s 6)), c0 8 (.mov 1 (.s 2)), c0 9 (.ld false 3 (.s 8)), c0 10 (.len 1 (.s 9)), cb 11 (.bin .lss .any (.s 7) (.s 10))] [1, 2, 5, 6, 11]) (.ite (.s 11) (.skip) (.exit 0))) (.seq (.block 1 (.seq (R [c0 14 (.mv (.s 1)), c0 15 (.mov 1 (.s 2)), c0 16 (.ld false 3 (.s 15)), c0 17 (.mv (.s 6)), c0 18 (.ixp 1 (.s 16) (.s 17)), c0 19 (.ld false 1 (.s 18)), cb 20 (.call none (.c (kf 40)) [(.s 14), (.s 19)])] [1, 2, 5, 6, 20]) (.ite (.s 20) (R [c0 21 (.mv (.s 5)), c0 22 (.bin .add .any (.s 21) (.c (ki .i64 1))), c0 5 (.tk (.s 22))] [1, 2, 5, 6]) (.skip)))) (R [c0 12 (.mv (.s 6)), c0 13 (.bin .add .any (.s 12) (.c (ki .i64 1))), c0 6 (.tk (.s 13))] [1, 2, 5, 6])))))) (.seq (R [c0 23 (.mv (.s 5)), c0 4 (.tk (.s 23))] [2, 4]) (.ret))))
theorem fun16 : Fun Try.prog cfg 16 24 cd16 [.s 4] := ⟨rfl, Try.f16, _, Try.func16, rfl, rfl, by kernel_rfl, by kernel_rfl⟩
@[go_sem] theorem ok16 : calleeOK Try.prog 16 = true := by kernel_rfl
@[go_sem] theorem ex16 : (cfg.ext 16).isSome = false := rfl
def cd14 : Cd := .seq (R [c0 2 (.new false (.s 0)), cb 4 (.tk (.c (kb false)))] [1, 2]) (.seq (R [c0 5 (.mov 1 (.s 2)), c0 6 (.ld false 3 (.s 5)), c0 7 (.mv (.s 1)), cb 8 (.call none (.c (kf 40)) [(.s 6), (.s 7)]), cb 4 (.tk (.s 8))] [2, 4]) (.ret))
theorem fun14 : Fun Try.prog cfg 14 9 cd14 [.s 4] := ⟨rfl, Try.f14, _, Try.func14, rfl, rfl, by kernel_rfl, by kernel_rfl⟩
@[go_sem] theorem ok14 : calleeOK Try.prog 14 = true := by kernel_rfl
@[go_sem] theorem ex14 : (cfg.ext 14).isSome = false := rfl
def cd18 : Cd := .seq (R [c0 2 (.new false (.s 0)), c0 3 (.new false (.s 1)), cb 4 (.mv (.c (kb false)))] [2, 3]) (.seq (RD [cd (some 5) false none (.mov 0 (.s 2)) false false [2], cd (some 6) false none (.ld false 1 (.s 5)) false false [5], cd (some 7) false none (.mov 0 (.s 3)) false false [3], cd (some 8) false none (.ld false 1 (.s 7)) false false [7], cd (some 9) true none (.bin .eql .any (.s 6) (.s 8)) false false [6, 8], cd (some 10) true none (.mv (.s 9)) false false [9], cd (some 11) false (some (10, true)) (.mov 1 (.s 2)) false false [2], cd (some 12) false (some (10, true)) (.ld false 5 (.s 11)) false false [11], cd (some 13) false (some (10, true)) (.call none (.c (kf 44)) [(.s 12)]) false false [12], cd (some 14) false (some (10, true)) (.mov 1 (.s 3)) false false [3], cd (some 15) false (some (10, true)) (.ld false 5 (.s 14)) false false [14], cd (some 16) false (some (10, true)) (.call none (.c (kf 44)) [(.s 15)]) false false [15], cd (some 17) true (some (10, true)) (.call none (.c (kf 43)) [(.s 13), (.s 16)]) false false [13, 16], cd (some 18) true none (.pick (.s 10) (.s 17) (.c (kb false))) false false [10, 17], cd (some 4) true none (.mv (.s 18)) false false [18]] [2, 3, 4] []) (.ret))
theorem fun18 : Fun Try.prog cfg 18 19 cd18 [.s 4] := ⟨rfl, Try.f18, _, Try.func18, rfl, rfl, by kernel_rfl, by kernel_rfl⟩
@[go_sem] theorem ok18 : calleeOK Try.prog 18 = true := by kernel_rfl
@[go_sem] theorem ex18 : (cfg.ext 18).isSome = false := rfl
variable {h : DHeap}
theorem rin_lim (own : Bool) (l : List Int) (x : Int) (hl : l.length ≤ 1099511627776) :
    lim Try.prog cfg 40 [.list own 1 (vnums l), vi x] h = some (vb (decide (x ∈ l)), h) := by
  refine lim_funp fun40 rfl (by simp) (by simp [heapFree, heapFree.all, free_vnums]) rfl ?_
  delta cd40
  simp -implicitDefEqProofs -dsimp only [go_sem]
  refine wp_for (σ := Nat) (fun k => [(0, .list false 1 (vnums l)), (1, vi x), (5, vi (k : Nat))]) (fun _ => []) (fun k => l.length - k) (fun k => k ≤ l.length ∧ ∀ j (hj : j < l.length), j < k → l[j] ≠ x) 0 (by simp) rfl rfl ?_
  rintro k ⟨hk, hj⟩ N hN
  by_cases hlt : k < l.length
  · have h1 : ((k : Int) < (l.length : Int)) := by omega
    by_cases hc : l[k] = x
    · have e : x ∈ l := by rw [← hc]; exact List.getElem_mem hlt
      rw [decide_eq_true e]
      simp -implicitDefEqProofs -dsimp only [go_sem, wp_RD, h1, hlt, eq_true hc]
    · simp -implicitDefEqProofs -dsimp only [go_sem, wp_RD, h1, hlt, eq_false hc]
      refine hN (k + 1) _ (by omega) ⟨by omega, fun j hj1 hj2 => ?_⟩ ?_
      · by_cases e : j = k
        · subst e; exact hc
        · exact hj j hj1 (by omega)
      · simp -implicitDefEqProofs -dsimp only [go_sem, wrap_succ (show k < 9223372036854775807 by omega)]
  · have h1 : ¬ ((k : Int) < (l.length : Int)) := by omega
    have e : ¬ x ∈ l := fun hx => by
      obtain ⟨j, hj1, e⟩ := List.getElem_of_mem hx
      exact hj j hj1 (by omega) e
    rw [decide_eq_false e]
    simp -implicitDefEqProofs -dsimp only [go_sem, h1]
theorem rhasC_lim (e : Int) (l : List Int) (x : Int) (hl : l.length ≤ 1099511627776) :
    lim Try.prog cfg 14 [.agg [vi e, .list false 1 (vnums l)], vi x] h = some (vb (decide (x ∈ l)), h) := by
  refine lim_funp fun14 rfl (by simp) (by simp [heapFree, heapFree.all, free_vnums]) rfl ?_
  delta cd14
  have e1 := rin_lim (h := []) false l x hl
  simp -implicitDefEqProofs -dsimp only [go_sem, e1]
  simp
theorem rcount_lim (own : Bool) (c : Con) (who : List Int) (hc : c.nodes.length ≤ 1048576) (hw : who.length ≤ 1048576) : lim Try.prog cfg 16 [.agg [vi c.epoch, .list false 1 (vnums c.nodes)], .list own 1 (vnums who)] h = some (vi (hereP c.nodes who : Nat), h) := by
  refine lim_funp fun16 rfl (by simp) (by simp [heapFree, heapFree.all, free_vnums]) rfl ?_
  delta cd16
  simp -implicitDefEqProofs -dsimp only [go_sem]
  refine wp_for (σ := Nat) (fun k => [(1, .list false 1 (vnums who)), (2, .box [vi c.epoch, .list false 1 (vnums c.nodes)]), (5, vi (((c.nodes.take k).filter fun x => decide (x ∈ who)).length : Nat)), (6, vi (k : Nat))]) (fun _ => []) (fun k => c.nodes.length - k) (fun k => k ≤ c.nodes.length) 0 (by simp) rfl rfl ?_
  rintro k hk N hN
  have hle := here_le c.nodes who k
  by_cases hlt : k < c.nodes.length
  · have h1 : (k : Int) < (c.nodes.length : Int) := by omega
    have e1 := rin_lim (h := []) false who c.nodes[k] (by omega)
    have es := here_succ c.nodes who k hlt
    by_cases c1 : c.nodes[k] ∈ who
    · rw [decide_eq_true c1] at e1
      rw [if_pos c1] at es
      simp -implicitDefEqProofs -dsimp only [go_sem, h1, hlt, e1]
      refine hN (k + 1) _ (by omega) (by omega) ?_
      rw [es]
      simp -implicitDefEqProofs -dsimp only [go_sem, wrap_succ (show k < 9223372036854775807 by omega), wrap_succ (show ((c.nodes.take k).filter fun x => decide (x ∈ who)).length < 9223372036854775807 by omega)]
    · rw [decide_eq_false c1] at e1
      rw [if_neg c1] at es
      simp -implicitDefEqProofs -dsimp only [go_sem, h1, hlt, e1]
      refine hN (k + 1) _ (by omega) (by omega) ?_
      rw [es]
      simp -implicitDefEqProofs -dsimp only [go_sem, wrap_succ (show k < 9223372036854775807 by omega)]
  · have h1 : ¬ (k : Int) < (c.nodes.length : Int) := by omega
    rw [List.take_of_length_le (by omega)]
    simp -implicitDefEqProofs -dsimp only [go_sem, h1]
    rfl
theorem rsameA_eq (a b : Att) (hs : a.seq = b.seq) (hd : cleanP a.deps = cleanP b.deps) (ha : a.deps.length ≤ 1000000) (hb : b.deps.length ≤ 1000000) : lim Try.prog cfg 18 [attD a, attD b] h = some (vb true, h) := by
  refine lim_funp fun18 rfl (by simp) (by simp [heapFree, heapFree.all, free_idr]) rfl ?_
  delta cd18
  have e1 := fun o => rclean_lim (h := []) o a.deps ha
  have e3 := fun o => rclean_lim (h := []) o b.deps hb
  rw [← hd] at e3
  have e2 := fun o1 o2 => row_self (h := []) o1 o2 (cleanP a.deps) (by have := clean_len a.deps; omega)
  cases ho : ownC a.deps <;> cases ho2 : ownC b.deps <;> simp only [ho] at e1 <;> simp only [ho2] at e3 <;> simp -implicitDefEqProofs -dsimp only [go_sem, wp_RD, postC_path2, Nat.reduceDiv, e1, e2, e3, eq_true hs]
end Go.DS

/-
  Leads: what is asked, plain.
-/
namespace Go.DS
open Go
set_option linter.unusedVariables false
set_option linter.unusedSimpArgs false
def PhR (L : Ld) : Prop := L.ph = 0 ∨ L.ph = 1 ∨ L.ph = 2 ∨ L.ph = 3 ∨ L.ph = 4
theorem hear_phr {L : Ld} (H : PhR L) (m : Mes) : PhR (hearL L m).2 := by
  have hp := hear_P L m
  generalize hearL L m = r at hp
  cases hp with
  | no => exact H
  | told _ _ _ => exact .inr (.inr (.inr (.inl rfl)))
  | beat _ _ _ => exact .inr (.inr (.inr (.inr rfl)))
  | add _ _ _ _ => exact H
  | turn p c a _ _ _ hT =>
    show p = 0 ∨ p = 1 ∨ p = 2 ∨ p = 3 ∨ p = 4
    have := hT.to; omega
theorem hearsL_phr {L : Ld} (H : PhR L) (l : List Mes) : PhR (hearsL L l) := by
  induction l generalizing L with
  | nil => exact H
  | cons m l ih => exact ih (hear_phr H m)
/-- What a first lead asks that was not told, and is not beaten. -/
theorem ask_first (c : Con) (node : Int) (id : Id) (cmd : Cmd) (a : Att) (l : List Mes) (hk : ∀ m ∈ l, m.kind ≠ 4) (h4 : (hearsL (newL c node id cmd a) l).ph ≠ 4) :
    (askL (hearsL (newL c node id cmd a) l)).ins.cmd = cmd ∧ (askL (hearsL (newL c node id cmd a) l)).id = id ∧ (askL (hearsL (newL c node id cmd a) l)).bal = ⟨0, id.n⟩ ∧
      (askL (hearsL (newL c node id cmd a) l)).frm = node ∧ (hearsL (newL c node id cmd a) l).ph ≠ 2 := by
  have h1 := hearsL_com (L := newL c node id cmd a) (cmd := cmd) ⟨.inr rfl, by show (0 : Int) ≠ 2; omega⟩ l hk
  have h2 := hearsL_phr (L := newL c node id cmd a) (.inl rfl) l
  obtain ⟨k1, k2, k3, k4⟩ := hearsL_keeps (newL c node id cmd a) l
  generalize hearsL (newL c node id cmd a) l = L at *
  have hc := h1.c.resolve_left h4
  have hp := h1.p
  refine ⟨?_, ?_, ?_, ?_, hp⟩
  all_goals
    unfold askL
    rcases h2 with e | e | e | e | e
    · rw [if_pos e]; assumption
    · rw [if_neg (by omega), if_pos e]; assumption
    · exact absurd e hp
    · rw [if_neg (by omega), if_neg (by omega), if_neg (by omega), if_pos e]; assumption
    · exact absurd e h4
end Go.DS

/-
  Leads: more than half are heard alike, plain.
-/
namespace Go.DS
open Go
set_option linter.unusedVariables false
set_option linter.unusedSimpArgs false
def nodesN (n : Nat) : List Int := (List.range n).map fun i : Nat => (i : Int)
theorem nodesN_mem {n k : Nat} : (k : Int) ∈ nodesN n ↔ k < n := by
  unfold nodesN
  rw [List.mem_map]
  constructor
  · rintro ⟨i, hi, e⟩
    have := List.mem_range.1 hi
    omega
  · intro h
    exact ⟨k, List.mem_range.2 h, rfl⟩
theorem nodesN_len (n : Nat) : (nodesN n).length = n := by simp [nodesN]
theorem nodesN_succ (n : Nat) : nodesN (n + 1) = nodesN n ++ [(n : Int)] := by simp [nodesN, List.range_succ]
def insS (a : Att) : Ins := ⟨1, ⟨0, 0⟩, ⟨0, 0⟩, ⟨0, 0, 0, [], [], 0, 0, 0⟩, a⟩
def LS (n : Nat) (a : Att) : Ld := newL ⟨0, nodesN n⟩ 0 ⟨0, 0, 1⟩ ⟨1, 0, 0, [], [], 0, 0, 0⟩ a
def mP (a : Att) (k : Nat) : Mes := ⟨1, k, 0, ⟨0, 0, 1⟩, ⟨0, 0⟩, insS a, ⟨⟨0, []⟩, [], []⟩⟩
def vS (x : Ins) (k : Nat) : List (Int × Ins) := (List.range k).map fun i : Nat => ((i : Int), x)
theorem vS_succ (x : Ins) (k : Nat) : vS x (k + 1) = vS x k ++ [((k : Int), x)] := by simp [vS, List.range_succ]
theorem vS_len (x : Ins) (k : Nat) : (vS x k).length = k := by simp [vS]
theorem vS_heard (x : Ins) (k j : Nat) : ((vS x k).any fun v => decide (v.1 = (j : Int))) = decide (j < k) := by
  rw [Bool.eq_iff_iff, List.any_eq_true, decide_eq_true_iff]
  simp only [vS, List.mem_map, List.mem_range, decide_eq_true_iff]
  constructor
  · rintro ⟨v, ⟨i, hi, rfl⟩, e⟩
    dsimp only at e
    omega
  · intro h
    exact ⟨_, ⟨j, h, rfl⟩, rfl⟩
theorem range_filter (m : Nat) : ∀ n : Nat, ((List.range n).filter fun i => decide (i < m)).length = min n m ∧ ((List.range n).filter fun i => !decide (i < m)).length = n - m
  | 0 => by simp
  | n + 1 => by
    obtain ⟨h1, h2⟩ := range_filter m n
    rw [List.range_succ, List.filter_append, List.filter_append, List.length_append, List.length_append, h1, h2]
    by_cases h : n < m
    · simp [h]; omega
    · simp [h]; omega
theorem nodes_filter (n m : Nat) (f : Int → Bool) (hf : ∀ i : Nat, f i = decide (i < m)) : ((nodesN n).filter f).length = min n m ∧ ((nodesN n).filter fun x => !f x).length = n - m := by
  obtain ⟨h1, h2⟩ := range_filter m n
  unfold nodesN
  rw [List.filter_map, List.filter_map, List.length_map, List.length_map]
  refine ⟨h1 ▸ ?_, h2 ▸ ?_⟩
  · congr 2; funext i; exact hf i
  · congr 2; funext i; simp only [Function.comp, hf]
theorem wait_vS {L : Ld} {n k : Nat} {x : Ins} (h1 : overL L = false) (h2 : L.con.nodes = nodesN n) (h3 : L.vo = vS x k) : (waitL L).length = n - k := by
  unfold waitL
  rw [h1, if_neg (by simp), h2]
  refine (nodes_filter n k (heardL L) fun i => ?_).2
  unfold heardL
  rw [h3, vS_heard]
theorem enough_vS {L : Ld} {n k : Nat} {x : Ins} (h2 : L.con.nodes = nodesN n) (h3 : L.vo = vS x k) (hn : 1 ≤ n) (hk : k ≤ n) : enoughL L = decide (n / 2 + 1 ≤ k) := by
  unfold enoughL
  rw [here_heard, h2, nodesN_len]
  have : ((nodesN n).filter fun n => heardL L n).length = min n k := (nodes_filter n k (heardL L) fun i => by unfold heardL; rw [h3, vS_heard]).1
  rw [this]
  unfold quorumP
  rw [if_neg (by omega), Nat.min_eq_right hk]
/-- A step of the first round. -/
theorem hear_P16 {n k : Nat} (a : Att) (r : Bool) (hk : k < n) : hearL { LS n a with vo := vS (insS a) k, rw := r } (mP a k) =
    if k + 1 = n then (true, turnL { LS n a with vo := vS (insS a) (k + 1), rw := false } 3 ⟨1, 0, 0, [], [], 0, 0, 0⟩ a) else (false, { LS n a with vo := vS (insS a) (k + 1), rw := false }) := by
  have e0 : ({ LS n a with vo := vS (insS a) k, rw := r } : Ld).vo ++ [((mP a k).frm, (mP a k).ins)] = vS (insS a) (k + 1) := (vS_succ _ _).symm
  have hm : (mP a k).frm ∈ ({ LS n a with vo := vS (insS a) k, rw := r } : Ld).con.nodes := nodesN_mem.2 hk
  unfold hearL
  rw [if_neg, if_neg, if_neg, if_neg, if_pos]
  · rw [e0]
    unfold proposedL
    have h1 : ((attrsL ({ LS n a with vo := vS (insS a) (k + 1), rw := false } : Ld)).any fun b => !sameA b a) = false := by
      rw [List.any_eq_false]
      intro b hb
      simp only [attrsL, vS, List.map_map, List.mem_map] at hb
      obtain ⟨i, _, rfl⟩ := hb
      have : sameA a a = true := sameA_iff.2 ⟨rfl, fun _ => Iff.rfl⟩
      simp [insS, this]
    have h2 : (({ LS n a with vo := vS (insS a) (k + 1), rw := false } : Ld).first && !(attrsL ({ LS n a with vo := vS (insS a) (k + 1), rw := false } : Ld)).any fun b => !sameA b ({ LS n a with vo := vS (insS a) (k + 1), rw := false } : Ld).att) = true := by
      show (true && !(attrsL ({ LS n a with vo := vS (insS a) (k + 1), rw := false } : Ld)).any fun b => !sameA b a) = true
      rw [h1]; rfl
    rw [if_pos h2, wait_vS (n := n) (k := k + 1) (x := insS a) rfl rfl rfl]
    by_cases e : k + 1 = n
    · rw [if_pos (by omega), if_pos e]; rfl
    · rw [if_neg (by omega), if_neg e]
  · rfl
  · rintro (h | h | h)
    · exact h (.inl ⟨rfl, rfl⟩)
    · exact h rfl
    · unfold heardL at h
      have := vS_heard (insS a) k k
      rw [show (({ LS n a with vo := vS (insS a) k, rw := r } : Ld).vo) = vS (insS a) k from rfl, show (mP a k).frm = (k : Int) from rfl, this] at h
      simp at h
  · rintro ⟨h, _⟩; cases h
  · intro h; cases h
  · rintro (h | h | h)
    · exact h rfl
    · exact h hm
    · cases h
def msP (a : Att) (k : Nat) : List Mes := (List.range k).map (mP a)
theorem msP_succ (a : Att) (k : Nat) : msP a (k + 1) = msP a k ++ [mP a k] := by simp [msP, List.range_succ]
theorem hears_P16 {n : Nat} (a : Att) : ∀ k, k < n → hearsL (LS n a) (msP a k) = { LS n a with vo := vS (insS a) k, rw := decide (k = 0) }
  | 0, h => rfl
  | k + 1, h => by
    rw [msP_succ, hearsL_snoc, hears_P16 a k (by omega), hear_P16 a _ (by omega), if_neg (by omega)]
    rfl
theorem hears_all {n : Nat} (a : Att) (h : 1 ≤ n) : hearsL (LS n a) (msP a n) = turnL { LS n a with vo := vS (insS a) n, rw := false } 3 ⟨1, 0, 0, [], [], 0, 0, 0⟩ a := by
  obtain ⟨k, rfl⟩ : ∃ k, n = k + 1 := ⟨n - 1, by omega⟩
  rw [msP_succ, hearsL_snoc, hears_P16 a k (by omega), hear_P16 a _ (by omega), if_pos rfl]
theorem slow_P16 {n k : Nat} (a : Att) (r : Bool) (hn : 1 ≤ n) (hk : k ≤ n) : slowL { LS n a with vo := vS (insS a) k, rw := r } =
    if n / 2 + 1 ≤ k then (true, turnL { LS n a with vo := vS (insS a) k, rw := r } 1 ⟨1, 0, 0, [], [], 0, 0, 0⟩ (allA (attrsL { LS n a with vo := vS (insS a) k, rw := r }))) else (false, { LS n a with vo := vS (insS a) k, rw := r }) := by
  unfold slowL
  have he := enough_vS (L := { LS n a with vo := vS (insS a) k, rw := r }) (n := n) (k := k) (x := insS a) rfl rfl hn hk
  by_cases h : n / 2 + 1 ≤ k
  · rw [if_pos h, if_pos ⟨rfl, rfl, by rw [he]; exact decide_eq_true h⟩]; rfl
  · rw [if_neg h, if_neg (fun q => by rw [he] at q; exact h (of_decide_eq_true q.2.2))]
theorem fold_same (a : Att) : ∀ (k : Nat) (s : Att), s.seq = a.seq → (∀ x ∈ s.deps, x ∈ a.deps) → ((List.replicate k a).foldl mergeP s).seq = a.seq ∧ (∀ x ∈ ((List.replicate k a).foldl mergeP s).deps, x ∈ a.deps) ∧ (0 < k → ∀ x ∈ a.deps, x ∈ ((List.replicate k a).foldl mergeP s).deps)
  | 0, s, h1, h2 => ⟨h1, h2, fun h => by omega⟩
  | k + 1, s, h1, h2 => by
    rw [List.replicate_succ, List.foldl_cons]
    have h3 : (mergeP s a).seq = a.seq := by show max s.seq a.seq = a.seq; rw [h1]; omega
    have h4 : ∀ x, x ∈ (mergeP s a).deps ↔ x ∈ a.deps := fun x => by
      show x ∈ cleanP (s.deps ++ a.deps) ↔ _
      rw [clean_mem, List.mem_append]
      exact ⟨fun h => h.elim (h2 x) id, .inr⟩
    obtain ⟨q1, q2, q3⟩ := fold_same a k (mergeP s a) h3 fun x hx => (h4 x).1 hx
    refine ⟨q1, q2, fun _ x hx => ?_⟩
    by_cases hk : 0 < k
    · exact q3 hk x hx
    · have : k = 0 := by omega
      subst this
      exact (h4 x).2 hx
theorem all_same (a : Att) {k : Nat} (hk : 1 ≤ k) : (allA (List.replicate k a)).seq = a.seq ∧ cleanP (allA (List.replicate k a)).deps = cleanP a.deps := by
  obtain ⟨j, rfl⟩ : ∃ j, k = j + 1 := ⟨k - 1, by omega⟩
  obtain ⟨q1, q2, q3⟩ := fold_same a (j + 1) ⟨a.seq, []⟩ rfl (by simp)
  have e : allA (List.replicate (j + 1) a) = (List.replicate (j + 1) a).foldl mergeP ⟨a.seq, []⟩ := rfl
  rw [e]
  exact ⟨q1, clean_congr fun x => ⟨q2 x, q3 (by omega) x⟩⟩
theorem attrs_vS {n k : Nat} (a : Att) (r : Bool) : attrsL { LS n a with vo := vS (insS a) k, rw := r } = List.replicate k a := by
  show (vS (insS a) k).map (·.2.att) = _
  unfold vS
  rw [List.map_map]
  apply List.ext_getElem
  · simp
  · intro i h1 h2; simp [insS]
/-- The second round. -/
def LA (n k : Nat) (a : Att) (b : Att) (j : Nat) : Ld := { turnL { LS n a with vo := vS (insS a) k, rw := decide (k = 0) } 1 ⟨1, 0, 0, [], [], 0, 0, 0⟩ b with vo := vS ins0 j }
def mA (j : Nat) : Mes := ⟨3, j, 0, ⟨0, 0, 1⟩, ⟨0, 0⟩, ins0, ⟨⟨0, []⟩, [], []⟩⟩
theorem hear_A16 {n k j : Nat} (a b : Att) (hn : 1 ≤ n) (hj : j < n) : hearL (LA n k a b j) (mA j) =
    if n / 2 + 1 ≤ j + 1 then (true, turnL (LA n k a b (j + 1)) 3 ⟨1, 0, 0, [], [], 0, 0, 0⟩ b) else (false, LA n k a b (j + 1)) := by
  have e0 : (LA n k a b j).vo ++ [((mA j).frm, (mA j).ins)] = vS ins0 (j + 1) := (vS_succ _ _).symm
  have hm : (mA j).frm ∈ (LA n k a b j).con.nodes := nodesN_mem.2 hj
  have he := enough_vS (L := LA n k a b (j + 1)) (n := n) (k := j + 1) (x := ins0) rfl rfl hn hj
  unfold hearL
  rw [if_neg, if_neg, if_neg, if_neg, if_neg, if_pos]
  · rw [e0]
    show (if enoughL (LA n k a b (j + 1)) = true then (true, turnL (LA n k a b (j + 1)) 3 ⟨1, 0, 0, [], [], 0, 0, 0⟩ b) else (false, LA n k a b (j + 1))) = _
    rw [he]
    by_cases h : n / 2 + 1 ≤ j + 1
    · rw [if_pos h, if_pos (decide_eq_true h)]
    · rw [if_neg h, if_neg (by simpa using h)]
  · rfl
  · intro h; cases h
  · rintro (h | h | h)
    · exact h (.inr (.inl ⟨rfl, rfl⟩))
    · exact h rfl
    · unfold heardL at h
      have := vS_heard ins0 j j
      rw [show (LA n k a b j).vo = vS ins0 j from rfl, show (mA j).frm = (j : Int) from rfl, this] at h
      simp at h
  · rintro ⟨h, _⟩; cases h
  · intro h; cases h
  · rintro (h | h | h)
    · exact h rfl
    · exact h hm
    · cases h
end Go.DS

/-
  Leads: nobody knows anything, plain.
-/
namespace Go.DS
open Go
set_option linter.unusedVariables false
set_option linter.unusedSimpArgs false
def LN (n : Nat) (id : Id) (b : Bal) : Ld := takeL ⟨0, nodesN n⟩ 0 id b
def vF (F : List Nat) : List (Int × Ins) := F.map fun i : Nat => ((i : Int), ins0)
theorem vF_snoc (F : List Nat) (j : Nat) : vF (F ++ [j]) = vF F ++ [((j : Int), ins0)] := by simp [vF]
def mN (id : Id) (b : Bal) (j : Nat) : Mes := ⟨6, j, 0, id, b, ins0, ⟨⟨0, []⟩, [], []⟩⟩
def LF (n : Nat) (id : Id) (b : Bal) (F : List Nat) (r : Bool) : Ld := { LN n id b with vo := vF F, rw := r }
theorem vF_heard (F : List Nat) (j : Nat) : ((vF F).any fun v => decide (v.1 = (j : Int))) = decide (j ∈ F) := by
  rw [Bool.eq_iff_iff, List.any_eq_true, decide_eq_true_iff]
  simp only [vF, List.mem_map, decide_eq_true_iff]
  constructor
  · rintro ⟨v, ⟨i, hi, rfl⟩, e⟩
    dsimp only at e
    have : i = j := by omega
    exact this ▸ hi
  · intro h
    exact ⟨_, ⟨j, h, rfl⟩, rfl⟩
theorem here_F (n : Nat) (F : List Nat) (hd : F.Nodup) (hF : ∀ i ∈ F, i < n) (f : Int → Bool) (hf : ∀ i : Nat, f i = decide (i ∈ F)) : ((nodesN n).filter f).length = F.length := by
  unfold nodesN
  rw [List.filter_map, List.length_map]
  have e : (List.range n).filter (f ∘ fun i : Nat => (i : Int)) = (List.range n).filter fun i => decide (i ∈ F) := by
    congr 1; funext i; exact hf i
  rw [e]
  refine List.Perm.length_eq ((List.perm_ext_iff_of_nodup (List.nodup_range.filter _) hd).2 fun a => ?_)
  rw [List.mem_filter, List.mem_range, decide_eq_true_iff]
  exact ⟨fun h => h.2, fun h => ⟨hF a h, h⟩⟩
theorem filter_not_len {α : Type} (f : α → Bool) (l : List α) : (l.filter fun x => !f x).length = l.length - (l.filter f).length := by
  have : ∀ l : List α, l.length = (l.filter f).length + (l.filter fun x => !f x).length := by
    intro l
    induction l with
    | nil => rfl
    | cons x l ih => cases hx : f x <;> simp [hx, ih] <;> omega
  have := this l
  omega
theorem wait_F (n : Nat) (id : Id) (b : Bal) (F : List Nat) (r : Bool) (hd : F.Nodup) (hF : ∀ i ∈ F, i < n) : (waitL (LF n id b F r)).length = n - F.length := by
  unfold waitL
  rw [if_neg (by show ¬ overL (LF n id b F r) = true; simp [overL, LF, LN, takeL])]
  show ((nodesN n).filter fun x => !heardL (LF n id b F r) x).length = _
  rw [filter_not_len, here_F n F hd hF (heardL (LF n id b F r)) (fun i => vF_heard F i), nodesN_len]
theorem enough_F (n : Nat) (id : Id) (b : Bal) (F : List Nat) (r : Bool) (hn : 1 ≤ n) (hd : F.Nodup) (hF : ∀ i ∈ F, i < n) : enoughL (LF n id b F r) = decide (n / 2 + 1 ≤ F.length) := by
  unfold enoughL
  rw [here_heard]
  show decide (quorumP (nodesN n).length ≤ ((nodesN n).filter fun x => heardL (LF n id b F r) x).length) = _
  rw [here_F n F hd hF (fun x => heardL (LF n id b F r) x) (fun i => vF_heard F i), nodesN_len]
  unfold quorumP
  rw [if_neg (by omega)]
theorem best_F (F : List Nat) : bestL (vF F) = (ins0, false) := by
  have : ∀ (l : List (Int × Ins)) (s : Ins × Bool), (∀ v ∈ l, v.2 = ins0) → l.foldl (fun s v => if decide (1 ≤ v.2.st) && moreP s v.2 then (v.2, true) else s) s = s := by
    intro l
    induction l with
    | nil => intro s _; rfl
    | cons v l ih =>
      intro s h
      rw [List.foldl_cons, h v List.mem_cons_self]
      rw [if_neg (by simp [ins0])]
      exact ih s fun x hx => h x (List.mem_cons_of_mem _ hx)
  exact this _ _ fun v hv => by
    obtain ⟨i, _, rfl⟩ := List.mem_map.1 hv
    rfl
theorem hear_N {n j : Nat} (id : Id) (b : Bal) (F : List Nat) (r : Bool) (hj : j < n) (hd : F.Nodup) (hF : ∀ i ∈ F, i < n) : hearL (LF n id b F r) (mN id b j) =
    if j ∈ F then (false, LF n id b F r) else if n / 2 + 1 ≤ F.length + 1 then (true, turnL (LF n id b (F ++ [j]) false) 1 ⟨0, 0, 0, [], [], 0, 0, 0⟩ ⟨0, []⟩) else (false, LF n id b (F ++ [j]) false) := by
  have e0 : (LF n id b F r).vo ++ [((mN id b j).frm, (mN id b j).ins)] = vF (F ++ [j]) := (vF_snoc _ _).symm
  have hm : (mN id b j).frm ∈ (LF n id b F r).con.nodes := nodesN_mem.2 hj
  have hh : heardL (LF n id b F r) (mN id b j).frm = decide (j ∈ F) := vF_heard F j
  unfold hearL
  rw [if_neg, if_neg, if_neg]
  · by_cases hjF : j ∈ F
    · rw [if_pos hjF, if_pos]
      exact .inr (.inr (by rw [hh]; exact decide_eq_true hjF))
    · rw [if_neg hjF, if_neg, if_neg, if_neg]
      · rw [e0]
        have hd2 : (F ++ [j]).Nodup := by
          rw [List.nodup_append]
          refine ⟨hd, by simp, ?_⟩
          intro a ha b hb e
          simp only [List.mem_singleton] at hb
          subst hb; subst e
          exact hjF ha
        have hF2 : ∀ i ∈ F ++ [j], i < n := fun i hi => by
          rcases List.mem_append.1 hi with h | h
          · exact hF i h
          · simp only [List.mem_singleton] at h; omega
        have he := enough_F n id b (F ++ [j]) false (by omega) hd2 hF2
        show askedL (LF n id b (F ++ [j]) false) = _
        unfold askedL
        rw [List.length_append, List.length_singleton] at he
        by_cases h : n / 2 + 1 ≤ F.length + 1
        · rw [decide_eq_true h] at he
          rw [if_neg (by rw [he]; simp), if_pos h]
          have hb : bestL (LF n id b (F ++ [j]) false).vo = (ins0, false) := best_F _
          rw [if_pos (by rw [hb])]
        · rw [decide_eq_false h] at he
          rw [if_pos (by rw [he]), if_neg h]
      · show ¬ (6 : Int) = 3; omega
      · show ¬ (6 : Int) = 1; omega
      · rintro (h | h | h)
        · exact h (.inr (.inr ⟨rfl, rfl⟩))
        · exact h rfl
        · rw [hh] at h; exact hjF (of_decide_eq_true h)
  · rintro ⟨h, _⟩; exact absurd h (by show ¬ (6 : Int) = 7; omega)
  · show ¬ (6 : Int) = 4; omega
  · rintro (h | h | h)
    · exact h rfl
    · exact h hm
    · simp [overL, LF, LN, takeL] at h
end Go.DS
