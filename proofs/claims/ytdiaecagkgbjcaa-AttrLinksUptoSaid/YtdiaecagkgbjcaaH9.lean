/-
  Where instances stand: plain.
-/
import Derived.Test.YtdiaecagkgbjcaaH8
import Derived.Test.YtdiaecagkgbjcaaRows
import Derived.WalkKit
import Derived.ProofKit
import Derived.Deep.Strs
import Derived.ChangeArms
import Derived.DataReads
set_option linter.unusedSimpArgs false
set_option linter.unusedVariables false
namespace Go.DS
open Go
set_option linter.unusedVariables false
/-- Where an instance stands. -/
structure Att where
  seq : Int
  deps : List Id
structure Kno where
  id : Id
  cmd : Cmd
  att : Att
def mergeP (a b : Att) : Att := ⟨max a.seq b.seq, cleanP (a.deps ++ b.deps)⟩
def sameA (a b : Att) : Bool := decide (a.seq = b.seq) && sameP a.deps b.deps
def allA : List Att → Att
  | [] => ⟨0, []⟩
  | a :: l => (a :: l).foldl mergeP ⟨a.seq, []⟩
def validA (id : Id) (a : Att) : Bool := a.deps.all (fun x => decide (x ≠ id) && decide (x.e = id.e) && validI x) && (decide (0 ≤ a.seq) && decide (a.seq ≤ 1099511627776)) && decide (a.deps.length ≤ 1024) && rightI a.deps
def matters (id : Id) (c : Cmd) (x : Kno) : Bool := decide (x.id ≠ id) && decide (x.id.e = id.e) && bothB x.cmd c
def localP (l : List Kno) (id : Id) (c : Cmd) : Att := ⟨(l.filter (matters id c)).foldl (fun n x => max n x.att.seq) 0 + 1, cleanP ((l.filter (matters id c)).map (·.id))⟩
def linkedP (a b : Kno) : Bool := decide (a.id ∈ b.att.deps) || decide (b.id ∈ a.att.deps)
end Go.DS

/-
  Attributes, plain: what the laws say.
-/
namespace Go.DS
open Go
set_option linter.unusedVariables false
theorem sameA_iff {a b : Att} : sameA a b = true ↔ a.seq = b.seq ∧ ∀ x, x ∈ a.deps ↔ x ∈ b.deps := by
  simp only [sameA, Bool.and_eq_true, decide_eq_true_eq, sameP_iff]
theorem merge_mem {a b : Att} {x : Id} : x ∈ (mergeP a b).deps ↔ x ∈ a.deps ∨ x ∈ b.deps := by
  show x ∈ cleanP _ ↔ _
  rw [clean_mem, List.mem_append]
theorem merge_comm (a b : Att) : sameA (mergeP a b) (mergeP b a) = true :=
  sameA_iff.2 ⟨Int.max_comm _ _, fun x => by rw [merge_mem, merge_mem, or_comm]⟩
theorem merge_self (a : Att) : sameA (mergeP a a) a = true :=
  sameA_iff.2 ⟨Int.max_self _, fun x => by rw [merge_mem, or_self]⟩
theorem merge_all (a b c : Att) : sameA (mergeP (mergeP a b) c) (allA [c, b, a]) = true := by
  refine sameA_iff.2 ⟨?_, fun x => ?_⟩
  · show max (max a.seq b.seq) c.seq = max (max (max c.seq c.seq) b.seq) a.seq
    omega
  · show _ ↔ x ∈ (mergeP (mergeP (mergeP ⟨c.seq, []⟩ c) b) a).deps
    rw [merge_mem, merge_mem, merge_mem, merge_mem, merge_mem]
    simp only [List.not_mem_nil, false_or]
    constructor
    · rintro ((h | h) | h)
      · exact .inr h
      · exact .inl (.inr h)
      · exact .inl (.inl h)
    · rintro ((h | h) | h)
      · exact .inr h
      · exact .inl (.inr h)
      · exact .inl (.inl h)
theorem merge_right (a b : Att) : rightI (mergeP a b).deps = true := (rightI_iff _).2 (clean_rises _)
theorem merge_len (a b : Att) : (mergeP a b).deps.length ≤ a.deps.length + b.deps.length := by
  have := clean_len (a.deps ++ b.deps)
  rw [List.length_append] at this
  exact this
theorem validA_iff {id : Id} {a : Att} : validA id a = true ↔ (∀ x ∈ a.deps, x ≠ id ∧ x.e = id.e ∧ validI x = true) ∧ (0 ≤ a.seq ∧ a.seq ≤ 1099511627776) ∧ a.deps.length ≤ 1024 ∧ rightI a.deps = true := by
  simp only [validA, Bool.and_eq_true, List.all_eq_true, decide_eq_true_eq, and_assoc]
theorem merge_valid {id : Id} {a b : Att} (ha : validA id a = true) (hb : validA id b = true) (hl : a.deps.length + b.deps.length ≤ 1024) : validA id (mergeP a b) = true := by
  obtain ⟨a1, a2, a3, a4⟩ := validA_iff.1 ha
  obtain ⟨b1, b2, b3, b4⟩ := validA_iff.1 hb
  refine validA_iff.2 ⟨fun x hx => ?_, ?_, ?_, merge_right a b⟩
  · rcases merge_mem.1 hx with h | h
    · exact a1 x h
    · exact b1 x h
  · show 0 ≤ max a.seq b.seq ∧ max a.seq b.seq ≤ _
    omega
  · have := merge_len a b; omega
/-- One by one, each at its place. -/
def putP (l : List Id) (x : Id) : List Id := if x ∈ l then l else l.filter (fun y => decide (ordI y x < 0)) ++ x :: l.filter (fun y => !decide (ordI y x < 0))
def rcleanP (l : List Id) : List Id := l.foldl putP []
theorem put_mem {l : List Id} {x y : Id} : y ∈ putP l x ↔ y = x ∨ y ∈ l := by
  unfold putP
  split
  · rename_i h
    constructor
    · exact .inr
    · rintro (rfl | h')
      · exact h
      · exact h'
  · simp only [List.mem_append, List.mem_cons, List.mem_filter, Bool.not_eq_true', decide_eq_true_eq, decide_eq_false_iff_not]
    by_cases hy : ordI y x < 0
    · simp [hy]
      by_cases e : y = x
      · subst e; exact absurd hy (ordI_total.irrefl y)
      · simp [e]
    · simp [hy]
theorem put_rises {l : List Id} {x : Id} (h : Rises l) : Rises (putP l x) := by
  unfold putP
  split
  · exact h
  · rename_i hx
    unfold Rises
    rw [List.pairwise_append]
    refine ⟨h.filter _, ?_, ?_⟩
    · rw [List.pairwise_cons]
      refine ⟨fun y hy => ?_, h.filter _⟩
      obtain ⟨h1, h2⟩ := List.mem_filter.1 hy
      simp only [Bool.not_eq_true', decide_eq_false_iff_not] at h2
      exact Decidable.byContradiction fun h3 => hx (ordI_total.total y x h2 h3 ▸ h1)
    · intro y hy z hz
      obtain ⟨h1, h2⟩ := List.mem_filter.1 hy
      simp only [decide_eq_true_eq] at h2
      rcases List.mem_cons.1 hz with rfl | hz
      · exact h2
      · obtain ⟨h3, h4⟩ := List.mem_filter.1 hz
        simp only [Bool.not_eq_true', decide_eq_false_iff_not] at h4
        have h5 : ordI x z < 0 := Decidable.byContradiction fun h5 => hx (ordI_total.total z x h4 h5 ▸ h3)
        exact ordI_total.trans y x z h2 h5
theorem rclean_go (l m : List Id) (hm : Rises m) : Rises (l.foldl putP m) ∧ ∀ y, y ∈ l.foldl putP m ↔ y ∈ m ∨ y ∈ l := by
  induction l generalizing m with
  | nil => exact ⟨hm, by simp⟩
  | cons x l ih =>
    obtain ⟨h1, h2⟩ := ih (putP m x) (put_rises hm)
    refine ⟨h1, fun y => ?_⟩
    rw [List.foldl_cons, h2, put_mem, List.mem_cons]
    constructor
    · rintro ((h | h) | h)
      · exact .inr (.inl h)
      · exact .inl h
      · exact .inr (.inr h)
    · rintro (h | h | h)
      · exact .inl (.inr h)
      · exact .inl (.inl h)
      · exact .inr h
theorem rclean_eq (l : List Id) : rcleanP l = cleanP l := by
  obtain ⟨h1, h2⟩ := rclean_go l [] (by simp [Rises])
  exact rises_eq h1 (clean_rises l) fun x => by rw [clean_mem]; have := h2 x; simpa [rcleanP] using this
/-- Who is known first is seen. -/
theorem foldl_max_ge (l : List Kno) (n : Int) : n ≤ l.foldl (fun n x => max n x.att.seq) n ∧ ∀ x ∈ l, x.att.seq ≤ l.foldl (fun n x => max n x.att.seq) n := by
  induction l generalizing n with
  | nil => simp
  | cons x l ih =>
    obtain ⟨h1, h2⟩ := ih (max n x.att.seq)
    rw [List.foldl_cons]
    refine ⟨by omega, fun y hy => ?_⟩
    rcases List.mem_cons.1 hy with rfl | hy
    · omega
    · exact h2 y hy
theorem foldl_max_le (l : List Kno) (n B : Int) (hn : n ≤ B) (h : ∀ x ∈ l, x.att.seq ≤ B) : l.foldl (fun n x => max n x.att.seq) n ≤ B := by
  induction l generalizing n with
  | nil => exact hn
  | cons x l ih =>
    rw [List.foldl_cons]
    exact ih _ (by have := h x List.mem_cons_self; omega) fun y hy => h y (List.mem_cons_of_mem _ hy)
theorem local_sees {l : List Kno} {x : Kno} {id : Id} {c : Cmd} (h : matters id c x = true) : x.id ∈ (localP (l ++ [x]) id c).deps ∧ x.att.seq < (localP (l ++ [x]) id c).seq := by
  constructor
  · show x.id ∈ cleanP _
    rw [clean_mem]
    exact List.mem_map_of_mem (List.mem_filter.2 ⟨by simp, h⟩)
  · have := (foldl_max_ge ((l ++ [x]).filter (matters id c)) 0).2 x (List.mem_filter.2 ⟨by simp, h⟩)
    show _ < _ + 1
    omega
theorem local_skips {l : List Kno} {x : Kno} {id : Id} {c : Cmd} (h : matters id c x = false) : localP (l ++ [x]) id c = localP l id c := by
  simp [localP, List.filter_append, h]
theorem linked_comm (a b : Kno) : linkedP a b = linkedP b a := by unfold linkedP; rw [Bool.or_comm]
end Go.DS

/-
  Walks: the functions of touch.
-/
namespace Go.DS
open Go Go.Proofs
set_option maxRecDepth 100000
set_option linter.unusedVariables false
set_option linter.unusedSimpArgs false
@[go_sem] theorem ok117 : calleeOK Try.prog 117 = true := by kernel_rfl
@[go_sem] theorem ex117 : (cfg.ext 117).isSome = true := rfl
def cd105 : Cd := .seq (R [c0 4 (.tk (.c (kn 2)))] [0, 1]) (.seq (R [c0 5 (.tk (.c (kn 2)))] [0, 1, 5]) (.seq (.seq (R [c0 8 (.mv (.s 1)), c0 9 (.len 1 (.s 8)), c0 10 (.mv (.c (ki .i64 0)))] [0, 5, 8, 9, 10]) (.block 0 (LP [0, 5, 8, 9, 10] (.seq (R [c0 11 (.bin .lss .any (.s 10) (.s 9))] [0, 5, 8, 9, 10, 11]) (.seq (.ite (.s 11) (.skip) (.exit 0)) (.seq (.block 1 (.seq (R [c0 12 (.ixp 1 (.s 8) (.s 10)), c0 13 (.ld false 1 (.s 12)), c0 7 (.tk (.s 13))] [0, 5, 7, 8, 9, 10]) (R [c0 14 (.tk (.s 5)), c0 15 (.mv (.s 0)), c0 16 (.mv (.s 7)), c0 17 (.bld [ks [], ki .u8 0] [(0, 1, (.s 15)), (1, 1, (.s 16))]), c0 18 (.bsl 2 [(.s 17)]), c0 19 (.app 2 27 false (.s 14) (.s 18)), c0 5 (.tk (.s 19))] [0, 5, 8, 9, 10]))) (R [c0 20 (.bin .add .any (.s 10) (.c (ki .i64 1))), c0 10 (.mv (.s 20))] [0, 5, 8, 9, 10]))))))) (.seq (R [c0 21 (.tk (.s 5)), c0 4 (.tk (.s 21))] [4]) (.ret))))
theorem fun105 : Fun Try.prog cfg 105 22 cd105 [.s 4] := ⟨rfl, Try.f105, _, Try.func105, rfl, rfl, by kernel_rfl, by kernel_rfl⟩
@[go_sem] theorem ok105 : calleeOK Try.prog 105 = true := by kernel_rfl
@[go_sem] theorem ex105 : (cfg.ext 105).isSome = false := rfl
def cd107 : Cd := .seq (R [c0 2 (.tk (.c (kn 2)))] [0]) (.seq (R [c0 3 (.tk (.c (ki .i64 0)))] [0, 3]) (.seq (.seq (R [c0 9 (.mv (.s 0)), c0 10 (.len 1 (.s 9)), c0 11 (.mv (.c (ki .i64 0)))] [0, 3, 9, 10, 11]) (.block 0 (LP [0, 3, 9, 10, 11] (.seq (R [c0 12 (.bin .lss .any (.s 11) (.s 10))] [0, 3, 9, 10, 11, 12]) (.seq (.ite (.s 12) (.skip) (.exit 0)) (.seq (.block 1 (.seq (R [c0 13 (.ixp 1 (.s 9) (.s 11)), c0 14 (.ldx true false 1 (.s 13)), c0 5 (.tk (.s 14))] [0, 3, 5, 9, 10, 11]) (.seq (R [c0 15 (.mv (.s 3)), c0 16 (.mv (.s 5)), c0 17 (.len 1 (.s 16)), c0 18 (.bin .add .any (.s 15) (.s 17)), c0 3 (.tk (.s 18))] [0, 3, 9, 10, 11]) (.seq (R [c0 19 (.mv (.s 3)), cb 20 (.bin .lss .any (.s 19) (.c (ki .i64 0)))] [0, 3, 9, 10, 11, 20]) (.ite (.s 20) (R [c0 21 (.mki 9 (.c (ks [108, 101, 110, 32, 111, 117, 116, 32, 111, 102, 32, 114, 97, 110, 103, 101]))), cn (.bad)] [0, 3, 9, 10, 11]) (.skip)))))) (R [c0 22 (.bin .add .any (.s 11) (.c (ki .i64 1))), c0 11 (.mv (.s 22))] [0, 3, 9, 10, 11]))))))) (.seq (R [c0 23 (.mv (.s 3)), c0 24 (.call (some true) (.c (kf 117)) [(.c (.sc (.slice none 0 0))), (.s 23)]), c0 6 (.tk (.s 24))] [0, 6]) (.seq (.seq (R [c0 25 (.mv (.s 0)), c0 26 (.len 1 (.s 25)), c0 27 (.mv (.c (ki .i64 0)))] [6, 25, 26, 27]) (.block 2 (LP [6, 25, 26, 27] (.seq (R [c0 28 (.bin .lss .any (.s 27) (.s 26))] [6, 25, 26, 27, 28]) (.seq (.ite (.s 28) (.skip) (.exit 2)) (.seq (.block 3 (.seq (R [c0 29 (.ixp 1 (.s 25) (.s 27)), c0 30 (.ldx true false 1 (.s 29)), c0 8 (.tk (.s 30))] [6, 8, 25, 26, 27]) (R [c0 31 (.tk (.s 6)), c0 32 (.mv (.s 8)), c0 33 (.app 2 27 false (.s 31) (.s 32)), c0 6 (.tk (.s 33))] [6, 25, 26, 27]))) (R [c0 34 (.bin .add .any (.s 27) (.c (ki .i64 1))), c0 27 (.mv (.s 34))] [6, 25, 26, 27]))))))) (.seq (R [c0 35 (.tk (.s 6)), c0 2 (.tk (.s 35))] [2]) (.ret))))))
theorem fun107 : Fun Try.prog cfg 107 36 cd107 [.s 2] := ⟨rfl, Try.f107, _, Try.func107, rfl, rfl, by kernel_rfl, by kernel_rfl⟩
@[go_sem] theorem ok107 : calleeOK Try.prog 107 = true := by kernel_rfl
@[go_sem] theorem ex107 : (cfg.ext 107).isSome = false := rfl
def cd108 : Cd := .seq (R [cb 4 (.tk (.c (kb false)))] [0, 1]) (.seq (R [c0 5 (.mv (.s 0)), c0 6 (.mv (.s 1)), c0 7 (.call none (.c (kf 118)) [(.s 5), (.s 6)]), cb 8 (.bin .geq .any (.s 7) (.c (ki .i64 0))), cb 4 (.tk (.s 8))] [4]) (.ret))
theorem fun108 : Fun Try.prog cfg 108 9 cd108 [.s 4] := ⟨rfl, Try.f108, _, Try.func108, rfl, rfl, by kernel_rfl, by kernel_rfl⟩
@[go_sem] theorem ok108 : calleeOK Try.prog 108 = true := by kernel_rfl
@[go_sem] theorem ex108 : (cfg.ext 108).isSome = false := rfl
def cd118 : Cd := .seq (R [c0 4 (.tk (.c (ki .i64 0)))] [0, 1]) (.seq (.seq (R [c0 6 (.mv (.s 0)), c0 7 (.len 1 (.s 6)), c0 8 (.mv (.c (ki .i64 0)))] [0, 1, 7, 8]) (.block 0 (LP [0, 1, 7, 8] (.seq (R [c0 9 (.bin .lss .any (.s 8) (.s 7))] [0, 1, 7, 8, 9]) (.seq (.ite (.s 9) (.skip) (.exit 0)) (.seq (.block 1 (.seq (R [c0 10 (.mv (.s 8)), c0 5 (.tk (.s 10))] [0, 1, 5, 7, 8]) (.seq (R [c0 11 (.mv (.s 1)), c0 12 (.mv (.s 0)), c0 13 (.mv (.s 5)), c0 14 (.ixp 2 (.s 12) (.s 13)), c0 15 (.ld true 2 (.s 14)), cb 16 (.call none (.s 11) [(.s 15)])] [0, 1, 5, 7, 8, 16]) (.ite (.s 16) (.seq (R [c0 17 (.mv (.s 5)), c0 4 (.tk (.s 17))] [4]) (.ret)) (.skip))))) (R [c0 18 (.bin .add .any (.s 8) (.c (ki .i64 1))), c0 8 (.mv (.s 18))] [0, 1, 7, 8]))))))) (.seq (R [c0 4 (.tk (.c (ki .i64 (-1))))] [4]) (.ret)))
theorem fun118 : Fun Try.prog cfg 118 19 cd118 [.s 4] := ⟨rfl, Try.f118, _, Try.func118, rfl, rfl, by kernel_rfl, by kernel_rfl⟩
@[go_sem] theorem ok118 : calleeOK Try.prog 118 = true := by kernel_rfl
@[go_sem] theorem ex118 : (cfg.ext 118).isSome = false := rfl
def cd109 : Cd := .seq (R [c0 2 (.new false (.s 0)), cb 3 (.tk (.c (kb false)))] [1, 2]) (.seq (R [c0 4 (.ld false 1 (.s 1)), c0 5 (.ld true 2 (.s 2)), cb 6 (.lkp [2, 0] true 2 (kb false) false (.s 4) (.s 5)), cb 3 (.tk (.s 6))] [2, 3]) (.ret))
theorem fun109 : Fun Try.prog cfg 109 7 cd109 [.s 3] := ⟨rfl, Try.f109, _, Try.func109, rfl, rfl, by kernel_rfl, by kernel_rfl⟩
@[go_sem] theorem ok109 : calleeOK Try.prog 109 = true := by kernel_rfl
@[go_sem] theorem ex109 : (cfg.ext 109).isSome = false := rfl
def cd89 : Cd := .seq (R [c0 2 (.new false (.s 0)), c0 3 (.new false (.s 1)), cb 4 (.tk (.c (kb false)))] [2, 3, 5, 7]) (.seq (R [c0 8 (.mkm), c0 5 (.new false (.c (.sc (.map none)))), cn (.st 1 (.s 5) (.s 8))] [2, 3, 5, 7]) (.seq (.seq (R [c0 9 (.mov 0 (.s 3)), c0 10 (.ld false 1 (.s 9)), c0 11 (.mov 1 (.s 3)), c0 12 (.ld false 1 (.s 11)), c0 13 (.bsl 1 [(.s 10), (.s 12)]), c0 14 (.call none (.c (kf 107)) [(.s 13)]), c0 15 (.len 1 (.s 14)), c0 16 (.mv (.c (ki .i64 0)))] [2, 3, 5, 7, 14, 15, 16]) (.block 0 (LP [2, 3, 5, 7, 14, 15, 16] (.seq (R [c0 17 (.bin .lss .any (.s 16) (.s 15))] [2, 3, 5, 7, 14, 15, 16, 17]) (.seq (.ite (.s 17) (.skip) (.exit 0)) (.seq (.block 1 (.seq (R [c0 18 (.ixp 2 (.s 14) (.s 16)), c0 19 (.ld true 2 (.s 18)), c0 7 (.new false (.c (.agg [ks [], ki .u8 0]))), cn (.st 2 (.s 7) (.s 19))] [2, 3, 5, 7, 14, 15, 16]) (R [c0 20 (.ld false 1 (.s 5)), c0 21 (.ld true 2 (.s 7)), cn (.mup [2, 0] true 2 (.s 20) (.s 21) (.c (kb true)))] [2, 3, 5, 7, 14, 15, 16]))) (R [c0 22 (.bin .add .any (.s 16) (.c (ki .i64 1))), c0 16 (.mv (.s 22))] [2, 3, 5, 7, 14, 15, 16]))))))) (.seq (R [c0 23 (.mov 1 (.s 2)), c0 24 (.ld false 1 (.s 23)), c0 25 (.mkf (.func 109) 0 [(.s 5)]), cb 26 (.call none (.c (kf 108)) [(.s 24), (.s 25)]), cb 4 (.tk (.s 26))] [2, 3, 4, 5, 7]) (.ret))))
theorem fun89 : Fun Try.prog cfg 89 27 cd89 [.s 4] := ⟨rfl, Try.f89, _, Try.func89, rfl, rfl, by kernel_rfl, by kernel_rfl⟩
@[go_sem] theorem ok89 : calleeOK Try.prog 89 = true := by kernel_rfl
@[go_sem] theorem ex89 : (cfg.ext 89).isSome = false := rfl
def cd88 : Cd := .seq (R [c0 1 (.new false (.s 0)), c0 2 (.new false (.c (.agg [kn 2, kn 2])))] [1, 2]) (.seq (R [c0 6 (.mov 3 (.s 1)), c0 7 (.ld false 1 (.s 6)), c0 3 (.tk (.s 7))] [1, 2, 3]) (.seq (.seq (R [c0 8 (.mv (.s 3)), cb 9 (.call none (.c (kf 104)) [(.s 8)]), cb 10 (.un .not (.s 9))] [1, 2, 3, 10]) (.ite (.s 10) (.seq (R [c0 11 (.bld [kz 2, kz 2] []), cn (.st 2 (.s 2) (.s 11))] [1, 2]) (.ret)) (.skip))) (.seq (.seq (R [c0 12 (.mov 2 (.s 1)), c0 13 (.ld false 1 (.s 12))] [1, 2, 3, 13]) (.block 0 (.seq (R [cb 15 (.bin .eql .any (.s 13) (.c (ki .i64 4))), cb 14 (.tk (.s 15))] [1, 2, 3, 13, 14]) (.ite (.s 14) (.seq (R [c0 16 (.mv (.s 3)), c0 17 (.bsl 1 [(.c (ki .u8 101)), (.c (ki .u8 118))]), c0 18 (.call none (.c (kf 105)) [(.s 16), (.s 17)]), c0 19 (.bld [kz 2, kz 2] [(0, 1, (.s 18))]), cn (.st 2 (.s 2) (.s 19))] [1, 2]) (.ret)) (.seq (R [cb 21 (.bin .eql .any (.s 13) (.c (ki .i64 5))), cb 20 (.tk (.s 21))] [1, 2, 3, 20]) (.ite (.s 20) (.seq (R [c0 22 (.mv (.s 3)), c0 23 (.bsl 1 [(.c (ki .u8 101)), (.c (ki .u8 107))]), c0 24 (.call none (.c (kf 105)) [(.s 22), (.s 23)]), c0 25 (.bld [kz 2, kz 2] [(0, 1, (.s 24))]), cn (.st 2 (.s 2) (.s 25))] [1, 2]) (.ret)) (.skip))))))) (.seq (R [c0 26 (.mv (.s 3)), c0 27 (.call none (.c (kf 106)) [(.s 26)]), c0 4 (.tk (.s 27))] [1, 2, 3, 4]) (.seq (R [c0 28 (.mv (.s 4)), cb 29 (.bin .eql .any (.s 28) (.c (ks []))), cb 5 (.tk (.s 29))] [1, 2, 3, 4, 5]) (.seq (.block 1 (.seq (R [c0 31 (.mov 2 (.s 1)), c0 32 (.ld false 1 (.s 31)), cb 33 (.bin .eql .any (.s 32) (.c (ki .i64 1))), cb 34 (.mv (.s 33)), ch 35 34 true (.mv (.s 5)), cb 36 (.pick (.s 34) (.s 35) (.c (kb false))), cb 30 (.tk (.s 36))] [1, 2, 3, 4, 5, 30]) (.ite (.s 30) (.seq (R [c0 37 (.mv (.s 3)), c0 38 (.bsl 1 [(.c (ki .u8 101))]), c0 39 (.call none (.c (kf 105)) [(.s 37), (.s 38)]), c0 40 (.bld [kz 2, kz 2] [(0, 1, (.s 39))]), cn (.st 2 (.s 2) (.s 40))] [1, 2]) (.ret)) (.seq (R [cb 42 (.mv (.s 5)), cb 41 (.tk (.s 42))] [1, 2, 3, 4, 41]) (.ite (.s 41) (.skip) (.seq (R [c0 44 (.mov 2 (.s 1)), c0 45 (.ld false 1 (.s 44)), cb 46 (.bin .eql .any (.s 45) (.c (ki .i64 1))), cb 43 (.tk (.s 46))] [1, 2, 3, 4, 43]) (.ite (.s 43) (.seq (R [c0 47 (.mv (.s 4)), c0 48 (.bsl 1 [(.c (ki .u8 101))]), c0 49 (.call none (.c (kf 105)) [(.s 47), (.s 48)]), c0 50 (.mv (.s 3)), c0 51 (.bsl 1 [(.c (ki .u8 101))]), c0 52 (.call none (.c (kf 105)) [(.s 50), (.s 51)]), c0 53 (.app 2 27 false (.s 49) (.s 52)), c0 54 (.mv (.s 3)), c0 55 (.bsl 1 [(.c (ki .u8 101)), (.c (ki .u8 118))]), c0 56 (.call none (.c (kf 105)) [(.s 54), (.s 55)]), c0 57 (.mv (.s 4)), c0 58 (.bsl 1 [(.c (ki .u8 107))]), c0 59 (.call none (.c (kf 105)) [(.s 57), (.s 58)]), c0 60 (.app 2 27 false (.s 56) (.s 59)), c0 61 (.bld [kz 2, kz 2] [(0, 1, (.s 53)), (1, 1, (.s 60))]), cn (.st 2 (.s 2) (.s 61))] [1, 2]) (.ret)) (.seq (R [c0 63 (.mov 2 (.s 1)), c0 64 (.ld false 1 (.s 63)), cb 65 (.bin .eql .any (.s 64) (.c (ki .i64 2))), cb 62 (.tk (.s 65))] [1, 2, 3, 4, 62]) (.ite (.s 62) (.seq (R [c0 66 (.mv (.s 3)), c0 67 (.bsl 1 [(.c (ki .u8 101)), (.c (ki .u8 107))]), c0 68 (.call none (.c (kf 105)) [(.s 66), (.s 67)]), c0 69 (.mv (.s 3)), c0 70 (.bsl 1 [(.c (ki .u8 101)), (.c (ki .u8 118))]), c0 71 (.call none (.c (kf 105)) [(.s 69), (.s 70)]), c0 72 (.mv (.s 4)), c0 73 (.bsl 1 [(.c (ki .u8 107))]), c0 74 (.call none (.c (kf 105)) [(.s 72), (.s 73)]), c0 75 (.app 2 27 false (.s 71) (.s 74)), c0 76 (.bld [kz 2, kz 2] [(0, 1, (.s 68)), (1, 1, (.s 75))]), cn (.st 2 (.s 2) (.s 76))] [1, 2]) (.ret)) (.seq (R [c0 78 (.mov 2 (.s 1)), c0 79 (.ld false 1 (.s 78)), cb 80 (.bin .eql .any (.s 79) (.c (ki .i64 3))), cb 77 (.tk (.s 80))] [1, 2, 3, 77]) (.ite (.s 77) (.seq (R [c0 81 (.mv (.s 3)), c0 82 (.bsl 1 [(.c (ki .u8 101))]), c0 83 (.call none (.c (kf 105)) [(.s 81), (.s 82)]), c0 84 (.mv (.s 3)), c0 85 (.bsl 1 [(.c (ki .u8 118))]), c0 86 (.call none (.c (kf 105)) [(.s 84), (.s 85)]), c0 87 (.bld [kz 2, kz 2] [(0, 1, (.s 83)), (1, 1, (.s 86))]), cn (.st 2 (.s 2) (.s 87))] [1, 2]) (.ret)) (.seq (R [c0 89 (.mov 2 (.s 1)), c0 90 (.ld false 1 (.s 89)), cb 91 (.bin .eql .any (.s 90) (.c (ki .i64 6))), cb 88 (.tk (.s 91))] [1, 2, 3, 88]) (.ite (.s 88) (.seq (R [c0 92 (.mv (.s 3)), c0 93 (.bsl 1 [(.c (ki .u8 101)), (.c (ki .u8 118))]), c0 94 (.call none (.c (kf 105)) [(.s 92), (.s 93)]), c0 95 (.mv (.s 3)), c0 96 (.bsl 1 [(.c (ki .u8 118))]), c0 97 (.call none (.c (kf 105)) [(.s 95), (.s 96)]), c0 98 (.bld [kz 2, kz 2] [(0, 1, (.s 94)), (1, 1, (.s 97))]), cn (.st 2 (.s 2) (.s 98))] [1, 2]) (.ret)) (.skip)))))))))))))) (.seq (R [c0 99 (.bld [kz 2, kz 2] []), cn (.st 2 (.s 2) (.s 99))] [1, 2]) (.ret))))))))
theorem fun88 : Fun Try.prog cfg 88 100 cd88 [.b 2 true 2] := ⟨rfl, Try.f88, _, Try.func88, rfl, rfl, by kernel_rfl, by kernel_rfl⟩
@[go_sem] theorem ok88 : calleeOK Try.prog 88 = true := by kernel_rfl
@[go_sem] theorem ex88 : (cfg.ext 88).isSome = false := rfl
def cd69 : Cd := .seq (R [c0 2 (.new false (.s 0)), c0 3 (.new false (.s 1)), cb 4 (.tk (.c (kb false)))] [2, 3, 5, 6]) (.seq (RD [cd (some 7) false none (.ld true 8 (.s 2)) false false [2], cd (some 8) false none (.call none (.c (kf 88)) [(.s 7)]) false false [7], cd (some 9) false none (.ld true 8 (.s 3)) false false [3], cd (some 10) false none (.call none (.c (kf 88)) [(.s 9)]) false false [9], cd (some 5) false none (.new false (.c (.agg [kn 2, kn 2]))) true false [], cd (some 6) false none (.new false (.c (.agg [kn 2, kn 2]))) true false [], cd none false none (.st 2 (.s 5) (.s 8)) false false [5, 8], cd none false none (.st 2 (.s 6) (.s 10)) false false [6, 10]] [2, 3, 5, 6] []) (.seq (R [c0 11 (.ld true 2 (.s 5)), c0 12 (.ld true 2 (.s 6)), cb 13 (.call none (.c (kf 89)) [(.s 11), (.s 12)]), cb 14 (.mv (.s 13)), cg 15 14 false (.ld true 2 (.s 6)), cg 16 14 false (.ld true 2 (.s 5)), ch 17 14 false (.call none (.c (kf 89)) [(.s 15), (.s 16)]), cb 18 (.pick (.s 14) (.c (kb true)) (.s 17)), cb 4 (.tk (.s 18))] [2, 3, 4, 5, 6]) (.ret)))
theorem fun69 : Fun Try.prog cfg 69 19 cd69 [.s 4] := ⟨rfl, Try.f69, _, Try.func69, rfl, rfl, by kernel_rfl, by kernel_rfl⟩
@[go_sem] theorem ok69 : calleeOK Try.prog 69 = true := by kernel_rfl
@[go_sem] theorem ex69 : (cfg.ext 69).isSome = false := rfl
def cd68 : Cd := .seq (R [c0 1 (.new false (.s 0)), cb 2 (.tk (.c (kb false)))] [1]) (.seq (R [c0 3 (.mov 2 (.s 1)), c0 4 (.ld false 1 (.s 3)), cb 5 (.bin .leq .any (.c (ki .i64 7)) (.s 4)), cb 6 (.mv (.s 5)), cg 7 6 true (.mov 2 (.s 1)), cg 8 6 true (.ld false 1 (.s 7)), ch 9 6 true (.bin .leq .any (.s 8) (.c (ki .i64 9))), cb 10 (.pick (.s 6) (.s 9) (.c (kb false))), cb 2 (.tk (.s 10))] [1, 2]) (.ret))
theorem fun68 : Fun Try.prog cfg 68 11 cd68 [.s 2] := ⟨rfl, Try.f68, _, Try.func68, rfl, rfl, by kernel_rfl, by kernel_rfl⟩
@[go_sem] theorem ok68 : calleeOK Try.prog 68 = true := by kernel_rfl
@[go_sem] theorem ex68 : (cfg.ext 68).isSome = false := rfl
def cd39 : Cd := .seq (R [c0 2 (.new false (.s 0)), c0 3 (.new false (.s 1)), cb 4 (.tk (.c (kb false)))] [2, 3]) (.seq (.block 0 (.seq (R [c0 6 (.mov 2 (.s 2)), c0 7 (.ld false 1 (.s 6)), cb 8 (.bin .eql .any (.s 7) (.c (ki .i64 0))), cb 9 (.mv (.s 8)), cg 10 9 false (.mov 2 (.s 3)), cg 11 9 false (.ld false 1 (.s 10)), ch 12 9 false (.bin .eql .any (.s 11) (.c (ki .i64 0))), cb 13 (.pick (.s 9) (.c (kb true)) (.s 12)), cb 5 (.tk (.s 13))] [2, 3, 5]) (.ite (.s 5) (.seq (R [cb 4 (.tk (.c (kb false)))] [2, 3, 4]) (.ret)) (.seq (R [c0 15 (.ld true 8 (.s 2)), cb 16 (.call none (.c (kf 68)) [(.s 15)]), cb 17 (.mv (.s 16)), cg 18 17 false (.ld true 8 (.s 3)), ch 19 17 false (.call none (.c (kf 68)) [(.s 18)]), cb 20 (.pick (.s 17) (.c (kb true)) (.s 19)), cb 21 (.mv (.s 20)), cg 22 21 false (.mov 0 (.s 2)), cg 23 21 false (.ld false 1 (.s 22)), cg 24 21 false (.mov 0 (.s 3)), cg 25 21 false (.ld false 1 (.s 24)), ch 26 21 false (.bin .eql .any (.s 23) (.s 25)), cb 27 (.pick (.s 21) (.c (kb true)) (.s 26)), cb 14 (.tk (.s 27))] [2, 3, 14]) (.ite (.s 14) (.seq (R [cb 4 (.tk (.c (kb true)))] [2, 3, 4]) (.ret)) (.skip)))))) (.seq (R [c0 28 (.ld true 8 (.s 2)), c0 29 (.ld true 8 (.s 3)), cb 30 (.call none (.c (kf 69)) [(.s 28), (.s 29)]), cb 4 (.tk (.s 30))] [2, 3, 4]) (.ret)))
theorem fun39 : Fun Try.prog cfg 39 31 cd39 [.s 4] := ⟨rfl, Try.f39, _, Try.func39, rfl, rfl, by kernel_rfl, by kernel_rfl⟩
@[go_sem] theorem ok39 : calleeOK Try.prog 39 = true := by kernel_rfl
@[go_sem] theorem ex39 : (cfg.ext 39).isSome = false := rfl
def cd37 : Cd := .seq (R [cb 2 (.tk (.c (kb false)))] [0]) (.seq (.seq (R [c0 3 (.tk (.c (ki .i64 0)))] [0, 3]) (.block 0 (LP [0, 3] (.seq (.seq (R [c0 4 (.mv (.s 3)), c0 5 (.mv (.s 0)), c0 6 (.len 1 (.s 5)), cb 7 (.bin .lss .any (.s 4) (.s 6)), cb 8 (.mv (.s 7)), cg 9 8 true (.mv (.s 3)), ch 10 8 true (.bin .leq .any (.s 9) (.c (ki .i64 60))), cb 11 (.pick (.s 8) (.s 10) (.c (kb false)))] [0, 3, 11]) (.ite (.s 11) (.skip) (.exit 0))) (.seq (.block 1 (.seq (R [c0 14 (.mv (.s 0)), c0 15 (.mv (.s 3)), c0 16 (.ixp 8 (.s 14) (.s 15)), c0 17 (.mov 3 (.s 16)), c0 18 (.ld false 1 (.s 17)), c0 19 (.len 0 (.s 18)), cb 20 (.bin .gtr .any (.s 19) (.c (ki .i64 300))), cb 21 (.mv (.s 20)), cg 22 21 false (.mv (.s 0)), cg 23 21 false (.mv (.s 3)), cg 24 21 false (.ixp 8 (.s 22) (.s 23)), cg 25 21 false (.mov 4 (.s 24)), cg 26 21 false (.ld false 1 (.s 25)), cg 27 21 false (.len 0 (.s 26)), ch 28 21 false (.bin .gtr .any (.s 27) (.c (ki .i64 300))), cb 29 (.pick (.s 21) (.c (kb true)) (.s 28))] [0, 3, 29]) (.ite (.s 29) (.seq (R [cb 2 (.tk (.c (kb true)))] [2]) (.ret)) (.skip)))) (R [c0 12 (.mv (.s 3)), c0 13 (.bin .add .any (.s 12) (.c (ki .i64 1))), c0 3 (.tk (.s 13))] [0, 3])))))) (.seq (R [c0 30 (.mv (.s 0)), c0 31 (.len 1 (.s 30)), cb 32 (.bin .gtr .any (.s 31) (.c (ki .i64 60))), cb 2 (.tk (.s 32))] [2]) (.ret)))
theorem fun37 : Fun Try.prog cfg 37 33 cd37 [.s 2] := ⟨rfl, Try.f37, _, Try.func37, rfl, rfl, by kernel_rfl, by kernel_rfl⟩
@[go_sem] theorem ok37 : calleeOK Try.prog 37 = true := by kernel_rfl
@[go_sem] theorem ex37 : (cfg.ext 37).isSome = false := rfl
variable {h : DHeap}
theorem tof_lim (own : Bool) (p : Str) (l : List UInt8) (hl : l.length ≤ 100) : lim Try.prog cfg 105 [vs p, .list own 1 (bys l)] h = some (.list true 2 (cls (ofP p l)), h) := by
  refine lim_funp fun105 rfl (by simp) (by simp [heapFree, free_bys]) (by simp [heapFree, free_cls]) ?_
  delta cd105
  simp -implicitDefEqProofs -dsimp only [go_sem]
  refine wp_for (σ := Nat) (fun k => [(0, vs p), (5, .list true 2 (cls (ofP p (l.take k)))), (8, .list false 1 (bys l)), (9, vi (l.length : Nat)), (10, vi (k : Nat))]) (fun _ => []) (fun k => l.length - k) (fun k => k ≤ l.length) 0 (by simp) rfl rfl ?_
  rintro k hk N hN
  have hlen : (ofP p (l.take k)).length = k := by simp [ofP]; omega
  by_cases hlt : k < l.length
  · have h1 : ((k : Int) < (l.length : Int)) := by omega
    have hm : (k + 1) * 27 ≤ maxLenD := by unfold maxLenD; omega
    simp -implicitDefEqProofs -dsimp only [go_sem, h1, hlen, hm]
    refine ⟨hlt, hN (k + 1) _ (by omega) (by omega) ?_⟩
    have e : cls (ofP p (l.take k)) ++ [[vs p, DV.sc (Value.int .u8 l[k].toNat)]] = cls (ofP p (l.take (k + 1))) := by
      rw [List.take_succ_eq_append_getElem hlt]; simp only [cls, ofP, List.map_append, List.map_cons, List.map_nil]
    simp -implicitDefEqProofs -dsimp only [go_sem, wrap_succ (show k < 9223372036854775807 by omega), e]
  · have h1 : ¬ ((k : Int) < (l.length : Int)) := by omega
    have : k = l.length := by omega
    subst this
    simp -implicitDefEqProofs -dsimp only [go_sem, h1, List.take_length]

/-- What lies in rows of rows. -/
def clss (ls : List (List Cel)) : List (List DV) := ls.map fun l => [.list false 2 (cls l)]
@[go_sem] theorem clss_len (l : List (List Cel)) : (clss l).length = l.length := by simp [clss]
@[go_sem high] theorem idxP_clss (l : List (List Cel)) (i : Int) (N : List DV → Prop) : IdxP (clss l) i N = IdxP l i fun c => N [.list false 2 (cls c)] := idxP_map
theorem free_clss : ∀ l : List (List Cel), heapFree.alls (clss l) = true
  | [] => rfl
  | s :: l => by
    have := free_clss l
    simp only [clss] at this
    simp only [clss, List.map_cons, heapFree.alls, heapFree.all, heapFree, this, free_cls, Bool.and_self]
theorem grow_lim (n : Nat) (hn : n ≤ 1048576) : lim Try.prog cfg 117 [.sc (.slice none 0 0), vi (n : Nat)] h = some (.list true 2 (cls []), h) := by
  refine lim_ext rfl ?_ rfl
  show (if (0 : Int) ≤ n ∧ (n : Int) ≤ 1048576 then some (DV.list true 2 [], h) else none) = _
  rw [if_pos (by omega)]; rfl
theorem flat_le {ls : List (List Cel)} {l : List Cel} (h : l ∈ ls) : l.length ≤ ls.flatten.length := by
  induction ls with
  | nil => cases h
  | cons a ls ih =>
    simp only [List.flatten_cons, List.length_append]
    rcases List.mem_cons.1 h with rfl | h
    · omega
    · have := ih h; omega
theorem flat_take (ls : List (List Cel)) (k : Nat) (hk : k < ls.length) : (ls.take (k + 1)).flatten = (ls.take k).flatten ++ ls[k] := by
  rw [List.take_succ_eq_append_getElem hk, List.flatten_append, List.flatten_cons, List.flatten_nil, List.append_nil]
theorem flat_take_le (ls : List (List Cel)) (k : Nat) : (ls.take k).flatten.length ≤ ls.flatten.length := by
  conv => rhs; rw [← List.take_append_drop k ls]
  rw [List.flatten_append, List.length_append]
  omega
theorem concat_lim (own : Bool) (ls : List (List Cel)) (hl : ls.length ≤ 1000) (hs : ls.flatten.length ≤ 1000000) : lim Try.prog cfg 107 [.list own 1 (clss ls)] h = some (.list true 2 (cls ls.flatten), h) := by
  refine lim_funp fun107 rfl (by simp) (by simp [heapFree, free_clss]) (by simp [heapFree, free_cls]) ?_
  delta cd107
  simp -implicitDefEqProofs -dsimp only [go_sem]
  refine wp_for (σ := Nat) (fun k => [(0, .list false 1 (clss ls)), (3, vi ((ls.take k).flatten.length : Nat)), (9, .list false 1 (clss ls)), (10, vi (ls.length : Nat)), (11, vi (k : Nat))]) (fun _ => []) (fun k => ls.length - k) (fun k => k ≤ ls.length) 0 (by simp) rfl rfl ?_
  rintro k hk N hN
  by_cases hlt : k < ls.length
  · have h1 : ((k : Int) < (ls.length : Int)) := by omega
    have h3 := flat_take ls k hlt
    have h4 := flat_take_le ls (k + 1)
    have h2 : IntKind.wrap .i64 (((ls.take k).flatten.length : Int) + (ls[k].length : Int)) = ((ls.take (k + 1)).flatten.length : Int) := by
      rw [h3] at h4 ⊢
      simp only [List.length_append] at h4 ⊢
      rw [wrap64 (by omega) (by omega)]; omega
    have h5 : ¬ (((ls.take (k + 1)).flatten.length : Int) < 0) := by omega
    simp -implicitDefEqProofs -dsimp only [go_sem, h1, hlt, h2, h5]
    refine hN (k + 1) _ (by omega) (by omega) ?_
    simp -implicitDefEqProofs -dsimp only [go_sem, wrap_succ (show k < 9223372036854775807 by omega)]
  · have h1 : ¬ ((k : Int) < (ls.length : Int)) := by omega
    have : k = ls.length := by omega
    subst this
    have hg := grow_lim (h := []) ls.flatten.length (by omega)
    simp -implicitDefEqProofs -dsimp only [go_sem, h1, List.take_length, hg]
    refine wp_for (σ := Nat) (fun k => [(6, .list true 2 (cls (ls.take k).flatten)), (25, .list false 1 (clss ls)), (26, vi (ls.length : Nat)), (27, vi (k : Nat))]) (fun _ => []) (fun k => ls.length - k) (fun k => k ≤ ls.length) 0 (by simp) rfl rfl ?_
    rintro k hk N hN
    by_cases hlt : k < ls.length
    · have h1 : ((k : Int) < (ls.length : Int)) := by omega
      have h3 := flat_take ls k hlt
      have h4 := flat_take_le ls (k + 1)
      have hm : ((ls.take k).flatten.length + ls[k].length) * 27 ≤ maxLenD := by
        rw [h3] at h4
        simp only [List.length_append] at h4
        unfold maxLenD; omega
      simp -implicitDefEqProofs -dsimp only [go_sem, h1, hlt, hm]
      refine hN (k + 1) _ (by omega) (by omega) ?_
      simp -implicitDefEqProofs -dsimp only [go_sem, wrap_succ (show k < 9223372036854775807 by omega), ← h3]
    · have h1 : ¬ ((k : Int) < (ls.length : Int)) := by omega
      have : k = ls.length := by omega
      subst this
      simp -implicitDefEqProofs -dsimp only [go_sem, h1, List.take_length]

/-- The closure that looks into the set. -/
theorem spoils1_lim (i : Nat) (m : List Cel) (hi : h[i]? = some (.map (mcs m))) (c : Cel) : lim Try.prog cfg 109 [.agg [vs c.1, .sc (.int .u8 c.2.toNat)], .eptr [.mp i]] h = some (vb (decide (c ∈ m)), h) := by
  refine lim_fun fun109 rfl (by simp) rfl ?_
  delta cd109
  have hm : ∀ N : List (DV × DV) → Prop, MapP h i N = N (mcs m) := fun N => by simp only [MapP, hi]
  by_cases hc : c ∈ m <;> simp -implicitDefEqProofs -dsimp only [go_sem, hm, find_mcs, hc]
def idxI : Option Nat → Int
  | some n => n
  | none => -1
theorem idxI_some (n : Nat) : idxI (some n) = n := rfl
theorem idxI_none : idxI none = -1 := rfl
theorem tindexFunc_lim (own : Bool) (l : List Cel) (hl : l.length ≤ 1000000) (i : Nat) (m : List Cel) (hi : h[i]? = some (.map (mcs m))) :
    ∃ r : Int, (decide (0 ≤ r) = l.any fun c => decide (c ∈ m)) ∧ lim Try.prog cfg 118 [.list own 2 (cls l), .fn (.func 109) [] [.eptr [.mp i]]] h = some (vi r, h) := by
  refine ⟨idxI (l.findIdx? fun c => decide (c ∈ m)), ?_, ?_⟩
  · cases hf : l.findIdx? (fun c => decide (c ∈ m)) with
    | none =>
      have := List.findIdx?_eq_none_iff.1 hf
      rw [idxI_none]
      rw [Bool.eq_iff_iff]
      simp only [decide_eq_true_eq, List.any_eq_true]
      constructor
      · intro h1; omega
      · rintro ⟨c, hc, h1⟩; have := this c hc; simp at this h1; exact (this h1).elim
    | some n =>
      obtain ⟨hn, h1, h2⟩ := List.findIdx?_eq_some_iff_getElem.1 hf
      rw [idxI_some]
      rw [Bool.eq_iff_iff]
      simp only [decide_eq_true_eq, List.any_eq_true]
      exact ⟨fun _ => ⟨l[n], List.getElem_mem _, by simpa using h1⟩, fun _ => by omega⟩
  refine lim_fun fun118 rfl (by simp) rfl ?_
  delta cd118
  simp -implicitDefEqProofs -dsimp only [go_sem]
  refine wp_for (σ := Nat) (fun k => [(0, .list false 2 (cls l)), (1, .fn (.func 109) [] [.eptr [.mp i]]), (7, vi (l.length : Nat)), (8, vi (k : Nat))]) (fun _ => h) (fun k => l.length - k) (fun k => k ≤ l.length ∧ ∀ j (hj : j < l.length), j < k → l[j] ∉ m) 0 (by simp) rfl rfl ?_
  rintro k ⟨hk, hj⟩ N hN
  by_cases hlt : k < l.length
  · have h1 : ((k : Int) < (l.length : Int)) := by omega
    have hx := spoils1_lim i m hi l[k]
    by_cases hc : l[k] ∈ m
    · have e : l.findIdx? (fun c => decide (c ∈ m)) = some k := List.findIdx?_eq_some_iff_getElem.2 ⟨hlt, by simpa using hc, fun j hjk => by simpa using hj j (by omega) hjk⟩
      simp -implicitDefEqProofs -dsimp only [go_sem, h1, hlt, hx, hc, e, idxI_some]
    · simp -implicitDefEqProofs -dsimp only [go_sem, h1, hlt, hx, hc]
      refine hN (k + 1) _ (by omega) ⟨by omega, fun j hj1 hj2 => ?_⟩ ?_
      · by_cases e : j = k
        · subst e; exact hc
        · exact hj j hj1 (by omega)
      · simp -implicitDefEqProofs -dsimp only [go_sem, wrap_succ (show k < 9223372036854775807 by omega)]
  · have h1 : ¬ ((k : Int) < (l.length : Int)) := by omega
    have : k = l.length := by omega
    subst this
    have e : l.findIdx? (fun c => decide (c ∈ m)) = none := List.findIdx?_eq_none_iff.2 fun c hc => by
      obtain ⟨j, hj1, rfl⟩ := List.getElem_of_mem hc
      simpa using hj j hj1 hj1
    simp -implicitDefEqProofs -dsimp only [go_sem, h1, e, idxI_none]
theorem tcontainsFunc_lim (own : Bool) (l : List Cel) (hl : l.length ≤ 1000000) (i : Nat) (m : List Cel) (hi : h[i]? = some (.map (mcs m))) :
    lim Try.prog cfg 108 [.list own 2 (cls l), .fn (.func 109) [] [.eptr [.mp i]]] h = some (vb (l.any fun c => decide (c ∈ m)), h) := by
  refine lim_fun fun108 rfl (by simp) rfl ?_
  delta cd108
  obtain ⟨r, hr, hx⟩ := tindexFunc_lim (h := h) false l hl i m hi
  rw [← hr]
  simp -implicitDefEqProofs -dsimp only [go_sem, hx]
  by_cases h0 : 0 ≤ r <;> simp [h0]
abbrev useD (r w : List Cel) : DV := .agg [.list false 2 (cls r), .list false 2 (cls w)]
theorem spoils_lim (r w r' w' : List Cel) (h1 : r.length ≤ 1000) (h2 : w.length ≤ 1000) (h3 : r'.length ≤ 1000) (h4 : w'.length ≤ 1000) :
    lim Try.prog cfg 89 [useD r w, useD r' w'] h = some (vb (spoilsP w r' w'), h) := by
  refine lim_funp fun89 rfl (by simp) (by simp [heapFree, heapFree.all, free_cls]) rfl ?_
  delta cd89
  have hc := concat_lim (h := [.map []]) false [r', w'] (by simp) (by simp; omega)
  have hcl : clss [r', w'] = [[.list false 2 (cls r')], [.list false 2 (cls w')]] := rfl
  have hfl : [r', w'].flatten = r' ++ w' := by simp
  rw [hcl, hfl] at hc
  have hu : (r' ++ w').length ≤ 2000 := by simp; omega
  unfold spoilsP
  generalize r' ++ w' = u at hc hu ⊢
  simp -implicitDefEqProofs -dsimp only [go_sem, hc]
  refine wp_for (σ := Nat × DV) (fun x => [(2, .box [.list false 2 (cls r), .list false 2 (cls w)]), (3, .box [.list false 2 (cls r'), .list false 2 (cls w')]), (5, .box [.mp 0]), (7, x.2), (14, .list true 2 (cls u)), (15, vi (u.length : Nat)), (16, vi (x.1 : Nat))]) (fun x => [.map (mcs (insAll (u.take x.1)))]) (fun x => u.length - x.1) (fun x => x.1 ≤ u.length) (0, .junk) (by simp) rfl rfl ?_
  rintro ⟨k, x⟩ hk N hN
  dsimp only at hk
  by_cases hlt : k < u.length
  · have h1 : ((k : Int) < (u.length : Int)) := by omega
    have hs : insC u[k] (insAll (u.take k)) = insAll (u.take (k + 1)) := by rw [List.take_succ_eq_append_getElem hlt, insAll_snoc]
    have hm : ∀ N : List (DV × DV) → Prop, MapP [.map (mcs (insAll (u.take k)))] 0 N = N (mcs (insAll (u.take k))) := fun N => rfl
    simp -implicitDefEqProofs -dsimp only [go_sem, h1, hlt, hm, set_mcs, hs, List.set_cons_zero]
    refine hN (k + 1, .box [vs u[k].1, .sc (.int .u8 u[k].2.toNat)]) _ (by dsimp only; omega) (by dsimp only; omega) ?_
    simp -implicitDefEqProofs -dsimp only [go_sem, wrap_succ (show k < 9223372036854775807 by omega)]
  · have h1 : ¬ ((k : Int) < (u.length : Int)) := by omega
    have : k = u.length := by omega
    subst this
    have hx := tcontainsFunc_lim (h := [.map (mcs (insAll (u.take u.length)))]) false w (by omega) 0 _ rfl
    simp only [List.take_length, mem_insAll] at hx
    generalize (w.any fun c => decide (c ∈ u)) = z at hx ⊢
    cases z <;> simp -implicitDefEqProofs -dsimp only [go_sem, h1, hx, List.take_length]
theorem uses_lim (c : Cmd) (hp : c.path.length ≤ 1099511627776) : lim Try.prog cfg 88 [cmdD c] h = some (useD (usesP c).1 (usesP c).2, h) := by
  refine lim_funp fun88 rfl (by simp) rfl (by simp [heapFree, heapFree.all, free_cls]) ?_
  delta cd88
  have v := valid_lim (h := []) c.path hp
  have u := parent_lim (h := []) c.path hp
  have t1 := tof_lim (h := []) false c.path [101] (by simp)
  have t2 := tof_lim (h := []) false c.path [118] (by simp)
  have t3 := tof_lim (h := []) false c.path [101, 118] (by simp)
  have t4 := tof_lim (h := []) false c.path [101, 107] (by simp)
  have t5 := tof_lim (h := []) false (parentP c.path) [101] (by simp)
  have t6 := tof_lim (h := []) false (parentP c.path) [107] (by simp)
  have m1 : (1 + 1) * 27 ≤ maxLenD := by decide
  have m2 : (2 + 1) * 27 ≤ maxLenD := by decide
  simp only [bys, List.map_cons, List.map_nil, UInt8.toNat_ofNat, Nat.reducePow, Nat.reduceMod, Int.cast_ofNat_Int] at t1 t2 t3 t4 t5 t6
  unfold usesP
  cases h1 : parse c.path with
  | none =>
    rw [h1] at v
    simp -implicitDefEqProofs -dsimp only [go_sem, v]
    simp [cls]
  | some l =>
    rw [h1] at v
    by_cases o4 : c.op = 4
    · simp -implicitDefEqProofs -dsimp only [go_sem, v, o4, t3]
      simp [cls]
    by_cases o5 : c.op = 5
    · simp -implicitDefEqProofs -dsimp only [go_sem, v, o4, o5, t4]
      simp [cls]
    by_cases r : parentP c.path = []
    · by_cases o1 : c.op = 1
      · simp -implicitDefEqProofs -dsimp only [go_sem, v, u, r, o1, t1]
        simp [cls]
      · simp -implicitDefEqProofs -dsimp only [go_sem, v, u, r, o4, o5, o1]
        simp [cls]
    by_cases o1 : c.op = 1
    · simp -implicitDefEqProofs -dsimp only [go_sem, v, u, r, o1, t1, t3, t5, t6]
      simp [ofP, maxLenD]
    by_cases o2 : c.op = 2
    · simp -implicitDefEqProofs -dsimp only [go_sem, v, u, r, o2, t1, t3, t4, t5, t6]
      simp [ofP, maxLenD]
    by_cases o3 : c.op = 3
    · simp -implicitDefEqProofs -dsimp only [go_sem, v, u, r, o3, t1, t2]
    by_cases o6 : c.op = 6
    · simp -implicitDefEqProofs -dsimp only [go_sem, v, u, r, o6, t2, t3]
    · simp -implicitDefEqProofs -dsimp only [go_sem, v, u, r, o4, o5, o1, o2, o3, o6]
      simp [cls]
theorem paths_lim (a b : Cmd) (ha : a.path.length ≤ 1099511627776) (hb : b.path.length ≤ 1099511627776) : lim Try.prog cfg 69 [cmdD a, cmdD b] h = some (vb (pathsB a b), h) := by
  refine lim_funp fun69 rfl (by simp) rfl rfl ?_
  delta cd69
  have v := uses_lim (h := []) a ha
  have w := uses_lim (h := []) b hb
  have la := uses_le a
  have lb := uses_le b
  have x := spoils_lim (h := []) (usesP a).1 (usesP a).2 (usesP b).1 (usesP b).2 (by omega) (by omega) (by omega) (by omega)
  have y := spoils_lim (h := []) (usesP b).1 (usesP b).2 (usesP a).1 (usesP a).2 (by omega) (by omega) (by omega) (by omega)
  unfold pathsB
  generalize spoilsP (usesP a).2 (usesP b).1 (usesP b).2 = p at x ⊢
  generalize spoilsP (usesP b).2 (usesP a).1 (usesP a).2 = q at y ⊢
  cases p <;> cases q <;> simp -implicitDefEqProofs -dsimp only [go_sem, v, w, x, y]
theorem control_lim (c : Cmd) : lim Try.prog cfg 68 [cmdD c] h = some (vb (controlB c), h) := by
  refine lim_funp fun68 rfl (by simp) rfl rfl ?_
  delta cd68
  unfold controlB
  by_cases o1 : 7 ≤ c.op <;> by_cases o2 : c.op ≤ 9 <;> simp -implicitDefEqProofs -dsimp only [go_sem, o1, o2]
set_option maxHeartbeats 2000000 in
theorem both_lim (a b : Cmd) (ha : a.path.length ≤ 1099511627776) (hb : b.path.length ≤ 1099511627776) : lim Try.prog cfg 39 [cmdD a, cmdD b] h = some (vb (bothB a b), h) := by
  refine lim_funp fun39 rfl (by simp) rfl rfl ?_
  delta cd39
  have v := control_lim (h := []) a
  have w := control_lim (h := []) b
  have x := paths_lim (h := []) a b ha hb
  unfold bothB
  by_cases o1 : a.op = 0
  · simp -implicitDefEqProofs -dsimp only [go_sem, o1]
    simp
  by_cases o2 : b.op = 0
  · simp -implicitDefEqProofs -dsimp only [go_sem, o1, o2]
    simp
  generalize controlB a = p at v ⊢
  generalize controlB b = q at w ⊢
  generalize pathsB a b = z at x ⊢
  cases p <;> cases q <;> simp -implicitDefEqProofs -dsimp only [go_sem, o1, o2, v, w, x] <;> by_cases o3 : a.client = b.client <;> cases z <;> simp [o3]
theorem over_lim (own : Bool) (l : List Cmd) (hl : l.length ≤ 1099511627776) : lim Try.prog cfg 37 [.list own 8 (cms l)] h = some (vb (overP l), h) := by
  refine lim_funp fun37 rfl (by simp) (by simp [heapFree, free_cms]) rfl ?_
  delta cd37
  simp -implicitDefEqProofs -dsimp only [go_sem]
  refine wp_for (σ := Nat) (fun k => [(0, .list false 8 (cms l)), (3, vi (k : Nat))]) (fun _ => []) (fun k => l.length - k) (fun k => k ≤ l.length ∧ k ≤ 61 ∧ (l.take k).any bigC = false) 0 (by simp) rfl rfl ?_
  rintro k ⟨hk, hk2, hj⟩ N hN
  by_cases hlt : k < l.length
  · have h1 : ((k : Int) < (l.length : Int)) := by omega
    by_cases h60 : k ≤ 60
    · have h2 : ((k : Int) ≤ 60) := by omega
      have hs := List.take_succ_eq_append_getElem hlt
      by_cases hb : bigC l[k] = true
      · have ho : overP l = true := by
          have : (l.take 61).any bigC = true := by
            rw [List.any_eq_true]
            exact ⟨l[k], List.mem_take_iff_getElem.2 ⟨k, by omega, rfl⟩, hb⟩
          simp [overP, this]
        rw [ho]
        simp only [bigC, Bool.or_eq_true, decide_eq_true_eq] at hb
        by_cases b1 : 300 < l[k].path.length
        · have b1' : (300 : Int) < (l[k].path.length : Int) := by omega
          simp -implicitDefEqProofs -dsimp only [go_sem, h1, h2, hlt, b1']
        · have b1' : ¬ (300 : Int) < (l[k].path.length : Int) := by omega
          have b2' : (300 : Int) < (l[k].value.length : Int) := by omega
          simp -implicitDefEqProofs -dsimp only [go_sem, h1, h2, hlt, b1', b2']
      · have hb' := hb
        simp only [bigC, Bool.or_eq_true, decide_eq_true_eq, not_or] at hb
        have b1' : ¬ (300 : Int) < (l[k].path.length : Int) := by omega
        have b2' : ¬ (300 : Int) < (l[k].value.length : Int) := by omega
        simp -implicitDefEqProofs -dsimp only [go_sem, h1, h2, hlt, b1', b2']
        refine hN (k + 1) _ (by omega) ⟨by omega, by omega, ?_⟩ ?_
        · rw [hs, List.any_append, hj]; simpa using hb'
        · simp -implicitDefEqProofs -dsimp only [go_sem, wrap_succ (show k < 9223372036854775807 by omega)]
    · have h2 : ¬ ((k : Int) ≤ 60) := by omega
      have h3 : (60 : Int) < (l.length : Int) := by omega
      have ho : overP l = true := by
        unfold overP
        rw [Bool.or_eq_true]
        exact .inr (decide_eq_true (by omega))
      simp -implicitDefEqProofs -dsimp only [go_sem, h1, h2, h3, ho]
  · have h1 : ¬ ((k : Int) < (l.length : Int)) := by omega
    have : k = l.length := by omega
    subst this
    rw [List.take_length] at hj
    have ho : overP l = decide (60 < l.length) := by
      have : (l.take 61).any bigC = false := by rw [List.take_of_length_le (by omega)]; exact hj
      simp [overP, this]
    rw [ho]
    by_cases h3 : 60 < l.length
    · have h4 : (60 : Int) < (l.length : Int) := by omega
      simp -implicitDefEqProofs -dsimp only [go_sem, h1, h3, h4]
    · have h4 : ¬ (60 : Int) < (l.length : Int) := by omega
      simp -implicitDefEqProofs -dsimp only [go_sem, h1, h3, h4]
end Go.DS

/-
  Walks: sets of instances.
-/
namespace Go.DS
open Go Go.Proofs
set_option maxRecDepth 100000
set_option linter.unusedVariables false
set_option linter.unusedSimpArgs false
@[go_sem] theorem ok100 : calleeOK Try.prog 100 = true := by kernel_rfl
@[go_sem] theorem ex100 : (cfg.ext 100).isSome = true := rfl
@[go_sem] theorem ok85 : calleeOK Try.prog 85 = true := by kernel_rfl
@[go_sem] theorem ex85 : (cfg.ext 85).isSome = true := rfl
def cd64 : Cd := .seq (R [c0 2 (.new false (.s 0)), c0 3 (.new false (.s 1)), cb 4 (.tk (.c (kb false)))] [2, 3]) (.seq (R [c0 5 (.ld true 3 (.s 2)), c0 6 (.ld true 3 (.s 3)), c0 7 (.call none (.c (kf 86)) [(.s 5), (.s 6)]), cb 8 (.bin .lss .any (.s 7) (.c (ki .i64 0))), cb 4 (.tk (.s 8))] [2, 3, 4]) (.ret))
theorem fun64 : Fun Try.prog cfg 64 9 cd64 [.s 4] := ⟨rfl, Try.f64, _, Try.func64, rfl, rfl, by kernel_rfl, by kernel_rfl⟩
@[go_sem] theorem ok64 : calleeOK Try.prog 64 = true := by kernel_rfl
@[go_sem] theorem ex64 : (cfg.ext 64).isSome = false := rfl
def cd90 : Cd := .seq (R [cb 4 (.tk (.c (kb false)))] [0, 1]) (.seq (R [c0 5 (.mv (.s 0)), cb 6 (.bin .leq .any (.c (ki .i64 0)) (.s 5)), cb 7 (.mv (.s 6)), cg 8 7 true (.mv (.s 0)), cg 9 7 true (.mv (.s 1)), ch 10 7 true (.bin .leq .any (.s 8) (.s 9)), cb 11 (.pick (.s 7) (.s 10) (.c (kb false))), cb 4 (.tk (.s 11))] [4]) (.ret))
theorem fun90 : Fun Try.prog cfg 90 12 cd90 [.s 4] := ⟨rfl, Try.f90, _, Try.func90, rfl, rfl, by kernel_rfl, by kernel_rfl⟩
@[go_sem] theorem ok90 : calleeOK Try.prog 90 = true := by kernel_rfl
@[go_sem] theorem ex90 : (cfg.ext 90).isSome = false := rfl
def cd70 : Cd := .seq (R [c0 1 (.new false (.s 0)), cb 2 (.tk (.c (kb false)))] [1]) (.seq (R [c0 3 (.tk (.c (kf 90)))] [1, 3]) (.seq (R [c0 4 (.mv (.s 3)), c0 5 (.mov 0 (.s 1)), c0 6 (.ld false 1 (.s 5)), cb 7 (.call none (.s 4) [(.s 6), (.c (ki .i64 1048576))]), cb 8 (.mv (.s 7)), cg 9 8 true (.mv (.s 3)), cg 10 8 true (.mov 1 (.s 1)), cg 11 8 true (.ld false 1 (.s 10)), ch 12 8 true (.call none (.s 9) [(.s 11), (.c (ki .i64 31))]), cb 13 (.pick (.s 8) (.s 12) (.c (kb false))), cb 14 (.mv (.s 13)), cg 15 14 true (.mv (.s 3)), cg 16 14 true (.mov 2 (.s 1)), cg 17 14 true (.ld false 1 (.s 16)), ch 18 14 true (.call none (.s 15) [(.s 17), (.c (ki .i64 1099511627776))]), cb 19 (.pick (.s 14) (.s 18) (.c (kb false))), cb 2 (.tk (.s 19))] [1, 2]) (.ret)))
theorem fun70 : Fun Try.prog cfg 70 20 cd70 [.s 2] := ⟨rfl, Try.f70, _, Try.func70, rfl, rfl, by kernel_rfl, by kernel_rfl⟩
@[go_sem] theorem ok70 : calleeOK Try.prog 70 = true := by kernel_rfl
@[go_sem] theorem ex70 : (cfg.ext 70).isSome = false := rfl
def cd83 : Cd := .seq (R [c0 2 (.tk (.c (.sc (.map none))))] [0, 7]) (.seq (R [c0 8 (.mkm), c0 3 (.tk (.s 8))] [0, 3, 7]) (.seq (.seq (R [c0 9 (.mv (.s 0)), c0 10 (.len 1 (.s 9)), c0 11 (.mv (.c (ki .i64 0)))] [3, 7, 9, 10, 11]) (.block 0 (LP [3, 7, 9, 10, 11] (.seq (R [c0 12 (.bin .lss .any (.s 11) (.s 10))] [3, 7, 9, 10, 11, 12]) (.seq (.ite (.s 12) (.skip) (.exit 0)) (.seq (.block 1 (.seq (R [c0 13 (.ixp 1 (.s 9) (.s 11)), c0 14 (.ldx true false 1 (.s 13)), c0 5 (.tk (.s 14))] [3, 5, 7, 9, 10, 11]) (.seq (R [c0 15 (.mv (.s 5)), c0 16 (.len 1 (.s 15)), c0 17 (.mv (.c (ki .i64 0)))] [3, 7, 9, 10, 11, 15, 16, 17]) (.block 2 (LP [3, 7, 9, 10, 11, 15, 16, 17] (.seq (R [c0 18 (.bin .lss .any (.s 17) (.s 16))] [3, 7, 9, 10, 11, 15, 16, 17, 18]) (.seq (.ite (.s 18) (.skip) (.exit 2)) (.seq (.block 3 (.seq (R [c0 19 (.ixp 3 (.s 15) (.s 17)), c0 20 (.ld true 3 (.s 19)), c0 7 (.new false (.c (.agg [ki .i64 0, ki .i64 0, ki .i64 0]))), cn (.st 3 (.s 7) (.s 20))] [3, 7, 9, 10, 11, 15, 16, 17]) (R [c0 21 (.mv (.s 3)), c0 22 (.ld true 3 (.s 7)), cn (.mup [0, 0, 0] true 3 (.s 21) (.s 22) (.c (kb true)))] [3, 7, 9, 10, 11, 15, 16, 17]))) (R [c0 23 (.bin .add .any (.s 17) (.c (ki .i64 1))), c0 17 (.mv (.s 23))] [3, 7, 9, 10, 11, 15, 16, 17]))))))))) (R [c0 24 (.bin .add .any (.s 11) (.c (ki .i64 1))), c0 11 (.mv (.s 24))] [3, 7, 9, 10, 11]))))))) (.seq (R [c0 25 (.mv (.s 3)), c0 2 (.tk (.s 25))] [2, 7]) (.ret))))
theorem fun83 : Fun Try.prog cfg 83 26 cd83 [.s 2] := ⟨rfl, Try.f83, _, Try.func83, rfl, rfl, by kernel_rfl, by kernel_rfl⟩
@[go_sem] theorem ok83 : calleeOK Try.prog 83 = true := by kernel_rfl
@[go_sem] theorem ex83 : (cfg.ext 83).isSome = false := rfl
def cd101 : Cd := .seq (R [c0 1 (.new true (.s 0)), c0 2 (.tk (.c (.sc .nilFunc)))] [1]) (.seq (R [c0 3 (.mkf (.func 112) 0 [(.s 1)]), c0 2 (.tk (.s 3))] [1, 2]) (.ret))
theorem fun101 : Fun Try.prog cfg 101 4 cd101 [.s 2] := ⟨rfl, Try.f101, _, Try.func101, rfl, rfl, by kernel_rfl, by kernel_rfl⟩
@[go_sem] theorem ok101 : calleeOK Try.prog 101 = true := by kernel_rfl
@[go_sem] theorem ex101 : (cfg.ext 101).isSome = false := rfl
def cd84 : Cd := .seq (R [c0 2 (.tk (.c (kn 3)))] [0]) (.seq (R [c0 3 (.mv (.s 0)), c0 4 (.call none (.c (kf 101)) [(.s 3)]), c0 5 (.call none (.c (kf 100)) [(.s 4), (.c (kf 86))]), c0 2 (.tk (.s 5))] [2]) (.ret))
theorem fun84 : Fun Try.prog cfg 84 6 cd84 [.s 2] := ⟨rfl, Try.f84, _, Try.func84, rfl, rfl, by kernel_rfl, by kernel_rfl⟩
@[go_sem] theorem ok84 : calleeOK Try.prog 84 = true := by kernel_rfl
@[go_sem] theorem ex84 : (cfg.ext 84).isSome = false := rfl
def cd67 : Cd := .seq (R [c0 2 (.tk (.c (kn 3)))] [0]) (.seq (R [c0 3 (.mv (.s 0)), c0 4 (.bsl 1 [(.s 3)]), c0 5 (.call none (.c (kf 83)) [(.s 4)]), c0 6 (.call none (.c (kf 84)) [(.s 5)]), c0 2 (.tk (.s 6))] [2]) (.ret))
theorem fun67 : Fun Try.prog cfg 67 7 cd67 [.s 2] := ⟨rfl, Try.f67, _, Try.func67, rfl, rfl, by kernel_rfl, by kernel_rfl⟩
@[go_sem] theorem ok67 : calleeOK Try.prog 67 = true := by kernel_rfl
@[go_sem] theorem ex67 : (cfg.ext 67).isSome = false := rfl
def cd61 : Cd := .seq (R [c0 4 (.tk (.c (kn 3)))] [0, 1]) (.seq (R [c0 5 (.mv (.s 0)), c0 6 (.mv (.s 1)), c0 7 (.bsl 1 [(.s 5), (.s 6)]), c0 8 (.call none (.c (kf 83)) [(.s 7)]), c0 9 (.call none (.c (kf 84)) [(.s 8)]), c0 4 (.tk (.s 9))] [4]) (.ret))
theorem fun61 : Fun Try.prog cfg 61 10 cd61 [.s 4] := ⟨rfl, Try.f61, _, Try.func61, rfl, rfl, by kernel_rfl, by kernel_rfl⟩
@[go_sem] theorem ok61 : calleeOK Try.prog 61 = true := by kernel_rfl
@[go_sem] theorem ex61 : (cfg.ext 61).isSome = false := rfl
def cd63 : Cd := .seq (R [cb 4 (.tk (.c (kb false)))] [0, 1]) (.seq (R [c0 5 (.mv (.s 0)), c0 6 (.bsl 1 [(.s 5)]), c0 7 (.call none (.c (kf 83)) [(.s 6)]), c0 8 (.mv (.s 1)), c0 9 (.bsl 1 [(.s 8)]), c0 10 (.call none (.c (kf 83)) [(.s 9)]), cb 11 (.call none (.c (kf 85)) [(.s 7), (.s 10)]), cb 4 (.tk (.s 11))] [4]) (.ret))
theorem fun63 : Fun Try.prog cfg 63 12 cd63 [.s 4] := ⟨rfl, Try.f63, _, Try.func63, rfl, rfl, by kernel_rfl, by kernel_rfl⟩
@[go_sem] theorem ok63 : calleeOK Try.prog 63 = true := by kernel_rfl
@[go_sem] theorem ex63 : (cfg.ext 63).isSome = false := rfl
def cd34 : Cd := .seq (R [cb 2 (.tk (.c (kb false)))] [0]) (.seq (.seq (R [c0 4 (.mv (.s 0)), c0 5 (.len 1 (.s 4)), c0 6 (.bin .sub .any (.s 5) (.c (ki .i64 1))), c0 7 (.mm true (.s 6) (.c (ki .i64 0))), c0 8 (.mv (.c (ki .i64 0)))] [0, 7, 8]) (.block 0 (LP [0, 7, 8] (.seq (R [cb 9 (.bin .lss .any (.s 8) (.s 7))] [0, 7, 8, 9]) (.seq (.ite (.s 9) (.skip) (.exit 0)) (.seq (.block 1 (.seq (R [c0 10 (.mv (.s 8)), c0 3 (.tk (.s 10))] [0, 3, 7, 8]) (.seq (RD [cd (some 11) false none (.mv (.s 0)) false false [0], cd (some 12) false none (.mv (.s 3)) false false [3], cd (some 13) false none (.ixp 3 (.s 11) (.s 12)) false false [11, 12], cd (some 14) false none (.ld true 3 (.s 13)) false false [13], cd (some 15) false none (.mv (.s 0)) false false [0], cd (some 16) false none (.mv (.s 3)) false false [3], cd (some 17) false none (.bin .add .any (.s 16) (.c (ki .i64 1))) false false [16], cd (some 18) false none (.ixp 3 (.s 15) (.s 17)) false false [15, 17], cd (some 19) false none (.ld true 3 (.s 18)) false false [18], cd (some 20) true none (.call none (.c (kf 64)) [(.s 14), (.s 19)]) false false [14, 19], cd (some 21) true none (.un .not (.s 20)) false false [20]] [0, 7, 8, 21] []) (.ite (.s 21) (.seq (R [cb 2 (.tk (.c (kb false)))] [2]) (.ret)) (.skip))))) (R [c0 22 (.bin .add .any (.s 8) (.c (ki .i64 1))), c0 8 (.mv (.s 22))] [0, 7, 8]))))))) (.seq (R [cb 2 (.tk (.c (kb true)))] [2]) (.ret)))
theorem fun34 : Fun Try.prog cfg 34 23 cd34 [.s 2] := ⟨rfl, Try.f34, _, Try.func34, rfl, rfl, by kernel_rfl, by kernel_rfl⟩
@[go_sem] theorem ok34 : calleeOK Try.prog 34 = true := by kernel_rfl
@[go_sem] theorem ex34 : (cfg.ext 34).isSome = false := rfl
def cd87 : Cd := .seq (R [c0 3 (.new false (.s 1)), c0 4 (.tk (.c (ki .i64 0)))] [0, 3]) (.seq (.seq (R [c0 6 (.mv (.s 0)), c0 7 (.len 1 (.s 6)), c0 8 (.mv (.c (ki .i64 0)))] [0, 3, 7, 8]) (.block 0 (LP [0, 3, 7, 8] (.seq (R [c0 9 (.bin .lss .any (.s 8) (.s 7))] [0, 3, 7, 8, 9]) (.seq (.ite (.s 9) (.skip) (.exit 0)) (.seq (.block 1 (.seq (R [c0 10 (.mv (.s 8)), c0 5 (.tk (.s 10))] [0, 3, 5, 7, 8]) (.seq (RD [cd (some 11) false none (.ld true 3 (.s 3)) false false [3], cd (some 12) false none (.mv (.s 0)) false false [0], cd (some 13) false none (.mv (.s 5)) false false [5], cd (some 14) false none (.ixp 3 (.s 12) (.s 13)) false false [12, 13], cd (some 15) false none (.ld true 3 (.s 14)) false false [14], cd (some 16) true none (.bin .eql (.flat [0, 0, 0]) (.s 11) (.s 15)) false false [11, 15]] [0, 3, 5, 7, 8, 16] []) (.ite (.s 16) (.seq (R [c0 17 (.mv (.s 5)), c0 4 (.tk (.s 17))] [3, 4]) (.ret)) (.skip))))) (R [c0 18 (.bin .add .any (.s 8) (.c (ki .i64 1))), c0 8 (.mv (.s 18))] [0, 3, 7, 8]))))))) (.seq (R [c0 4 (.tk (.c (ki .i64 (-1))))] [3, 4]) (.ret)))
theorem fun87 : Fun Try.prog cfg 87 19 cd87 [.s 4] := ⟨rfl, Try.f87, _, Try.func87, rfl, rfl, by kernel_rfl, by kernel_rfl⟩
@[go_sem] theorem ok87 : calleeOK Try.prog 87 = true := by kernel_rfl
@[go_sem] theorem ex87 : (cfg.ext 87).isSome = false := rfl
def cd65 : Cd := .seq (R [c0 3 (.new false (.s 1)), cb 4 (.tk (.c (kb false)))] [0, 3]) (.seq (R [c0 5 (.mv (.s 0)), c0 6 (.ld true 3 (.s 3)), c0 7 (.call none (.c (kf 87)) [(.s 5), (.s 6)]), cb 8 (.bin .geq .any (.s 7) (.c (ki .i64 0))), cb 4 (.tk (.s 8))] [3, 4]) (.ret))
theorem fun65 : Fun Try.prog cfg 65 9 cd65 [.s 4] := ⟨rfl, Try.f65, _, Try.func65, rfl, rfl, by kernel_rfl, by kernel_rfl⟩
@[go_sem] theorem ok65 : calleeOK Try.prog 65 = true := by kernel_rfl
@[go_sem] theorem ex65 : (cfg.ext 65).isSome = false := rfl
def cd35 : Cd := .seq (R [c0 3 (.new false (.s 1)), cb 4 (.tk (.c (kb false)))] [0, 3]) (.seq (R [c0 5 (.mv (.s 0)), c0 6 (.ld true 3 (.s 3)), cb 7 (.call none (.c (kf 65)) [(.s 5), (.s 6)]), cb 4 (.tk (.s 7))] [3, 4]) (.ret))
theorem fun35 : Fun Try.prog cfg 35 8 cd35 [.s 4] := ⟨rfl, Try.f35, _, Try.func35, rfl, rfl, by kernel_rfl, by kernel_rfl⟩
@[go_sem] theorem ok35 : calleeOK Try.prog 35 = true := by kernel_rfl
@[go_sem] theorem ex35 : (cfg.ext 35).isSome = false := rfl
variable {h : DHeap}
theorem ordIOK : OrdIOK Try.prog 86 := ⟨by kernel_rfl, fun a b => @lim_sound ⟨true⟩ _ _ ext_okA _ _ _ _ _ (MI.ordD_lim (h := []) a b)⟩
theorem lessD_lim (a b : Id) : lim Try.prog cfg 64 [.agg [vi a.e, vi a.n, vi a.k], .agg [vi b.e, vi b.n, vi b.k]] h = some (vb (lessI a b), h) := by
  refine lim_funp fun64 rfl (by simp) rfl rfl ?_
  delta cd64
  have e1 := ordD_lim (h := []) a b
  simp -implicitDefEqProofs -dsimp only [go_sem, e1]
  simp [lessI]
theorem in_lim (n m : Int) : lim Try.prog cfg 90 [vi n, vi m] h = some (vb (decide (0 ≤ n) && decide (n ≤ m)), h) := by
  refine lim_funp fun90 rfl (by simp) rfl rfl ?_
  delta cd90
  by_cases h1 : 0 ≤ n <;> simp -implicitDefEqProofs -dsimp only [go_sem, h1] <;> simp
theorem validD_lim (x : Id) : lim Try.prog cfg 70 [.agg [vi x.e, vi x.n, vi x.k]] h = some (vb (validI x), h) := by
  refine lim_funp fun70 rfl (by simp) rfl rfl ?_
  delta cd70
  have e1 := in_lim (h := []) x.e 1048576
  have e2 := in_lim (h := []) x.n 31
  have e3 := in_lim (h := []) x.k 1099511627776
  unfold validI
  cases h1 : (decide (0 ≤ x.e) && decide (x.e ≤ 1048576)) <;> cases h2 : (decide (0 ≤ x.n) && decide (x.n ≤ 31)) <;> cases h3 : (decide (0 ≤ x.k) && decide (x.k ≤ 1099511627776)) <;> rw [h1] at e1 <;> rw [h2] at e2 <;> rw [h3] at e3 <;>
    simp -implicitDefEqProofs -dsimp only [go_sem, e1, e2, e3] <;> simp [h1, h2, h3]
theorem set_setD (c : Id) : ∀ l : List Id, setKey [0, 0, 0] (.agg [vi c.e, vi c.n, vi c.k]) (.sc (.bool true)) (setD l) = some (setD (insI c l))
  | [] => rfl
  | d :: l => by
    have ih := set_setD c l
    simp only [setD] at ih
    simp only [setD, List.map_cons, setKey, eqK_id]
    by_cases h : c = d
    · subst h; simp [insI]
    · simp only [h, decide_false, ih, Option.map_some, Option.some.injEq]
      have : insI c (d :: l) = d :: insI c l := by
        unfold insI
        simp only [List.mem_cons, h, false_or]
        split <;> rfl
      rw [this]; rfl
/-- Rows of rows of instances. -/
def idrs (ls : List (List Id)) : List (List DV) := ls.map fun l => [.list false 3 (idr l)]
@[go_sem] theorem idrs_len (l : List (List Id)) : (idrs l).length = l.length := by simp [idrs]
@[go_sem high] theorem idxP_idrs (l : List (List Id)) (i : Int) (N : List DV → Prop) : IdxP (idrs l) i N = IdxP l i fun c => N [.list false 3 (idr c)] := idxP_map
theorem flatI_take (ls : List (List Id)) (k : Nat) (hk : k < ls.length) : (ls.take (k + 1)).flatten = (ls.take k).flatten ++ ls[k] := by
  rw [List.take_succ_eq_append_getElem hk, List.flatten_append, List.flatten_cons, List.flatten_nil, List.append_nil]
theorem mapNew (h : DHeap) (o : DObj) : (h ++ [o])[h.length]? = some o := by simp
theorem mapP_new (h : DHeap) (es : List (DV × DV)) (N : List (DV × DV) → Prop) : MapP (h ++ [.map es]) h.length N = N es := by simp [MapP]
theorem set_new (h : DHeap) (o o' : DObj) : (h ++ [o]).set h.length o' = h ++ [o'] := by simp
theorem ofD_lim (own : Bool) (ls : List (List Id)) (hl : ls.length ≤ 1000000) (hs : ∀ l ∈ ls, l.length ≤ 1099511627776) :
    lim Try.prog cfg 83 [.list own 1 (idrs ls)] h = some (.mp h.length, h ++ [.map (setD (setOf ls.flatten))]) := by
  refine lim_fun fun83 rfl (by simp) rfl ?_
  delta cd83
  simp -implicitDefEqProofs -dsimp only [go_sem]
  refine wp_for (σ := Nat × DV) (fun k => [(3, .mp h.length), (7, k.2), (9, .list false 1 (idrs ls)), (10, vi (ls.length : Nat)), (11, vi (k.1 : Nat))]) (fun k => h ++ [.map (setD (setOf (ls.take k.1).flatten))]) (fun k => ls.length - k.1) (fun k => k.1 ≤ ls.length) (0, .junk) (by simp) rfl rfl ?_
  rintro ⟨k, x⟩ hk N hN
  dsimp only at hk ⊢
  by_cases hlt : k < ls.length
  · have h1 : ((k : Int) < (ls.length : Int)) := by omega
    have hll := hs _ (List.getElem_mem hlt)
    simp -implicitDefEqProofs -dsimp only [go_sem, h1, hlt]
    refine wp_for (σ := Nat × DV) (fun j => [(3, .mp h.length), (7, j.2), (9, .list false 1 (idrs ls)), (10, vi (ls.length : Nat)), (11, vi (k : Nat)), (15, .list false 3 (idr ls[k])), (16, vi (ls[k].length : Nat)), (17, vi (j.1 : Nat))]) (fun j => h ++ [DObj.map (setD (setOf ((ls.take k).flatten ++ ls[k].take j.1)))]) (fun j => ls[k].length - j.1) (fun j => j.1 ≤ ls[k].length) (0, x) (by simp) rfl (by simp) ?_
    rintro ⟨j, y⟩ hj M hM
    dsimp only at hj ⊢
    by_cases hjt : j < ls[k].length
    · have h2 : ((j : Int) < (ls[k].length : Int)) := by omega
      have e : insI ls[k][j] (setOf ((ls.take k).flatten ++ ls[k].take j)) = setOf ((ls.take k).flatten ++ ls[k].take (j + 1)) := by
        rw [List.take_succ_eq_append_getElem hjt, ← List.append_assoc, setOf_snoc]
      simp -implicitDefEqProofs -dsimp only [go_sem, h2, hjt, mapP_new, set_setD, set_new, e]
      refine hM (j + 1, .box [vi ls[k][j].e, vi ls[k][j].n, vi ls[k][j].k]) _ (by dsimp only; omega) (by dsimp only; omega) ?_
      simp -implicitDefEqProofs -dsimp only [go_sem, wrap_succ (show j < 9223372036854775807 by omega)]
    · have h2 : ¬ ((j : Int) < (ls[k].length : Int)) := by omega
      have hj2 : ls[k].take j = ls[k] := List.take_of_length_le (by omega)
      simp -implicitDefEqProofs -dsimp only [go_sem, h2]
      rw [hj2, ← flatI_take ls k hlt]
      refine hN (k + 1, y) _ (by dsimp only; omega) (by dsimp only; omega) ?_
      simp -implicitDefEqProofs -dsimp only [go_sem, wrap_succ (show k < 9223372036854775807 by omega)]
  · have h1 : ¬ ((k : Int) < (ls.length : Int)) := by omega
    have hkl : ls.take k = ls := List.take_of_length_le (by omega)
    rw [hkl]
    simp -implicitDefEqProofs -dsimp only [go_sem, h1]
theorem keysD_lim (j : Nat) : lim Try.prog cfg 101 [.mp j] h = some (.fn (.func 112) [] [.ptr h.length 0], h ++ [.cells [.mp j]]) := by
  refine lim_fun fun101 rfl (by simp) rfl ?_
  delta cd101
  simp -implicitDefEqProofs -dsimp only [go_sem]
theorem setD_keys (l : List Id) : (setD l).map (fun e => keyD e.1) = l := by
  simp only [setD, List.map_map]
  exact (List.map_congr_left fun e _ => rfl).trans (List.map_id l)
theorem keysDOK {l : List Id} (hn : l.Nodup) (hl : l.length ≤ 1048576) : KeysDOK (setD l) l := ⟨by simp only [setD, List.map_map]; rfl, hn, hl⟩
theorem sortedD_lim {i j : Nat} {l : List Id} (hn : l.Nodup) (hl : l.length ≤ 1048576) (hi : h[i]? = some (.cells [.mp j])) (hj : h[j]? = some (.map (setD l))) :
    lim Try.prog cfg 100 [.fn (.func 112) [] [.ptr i 0], .fn (.func 86) [] []] h = some (.list true 3 (idr (sortD l)), h) := by
  refine lim_ext rfl ?_ rfl
  show keysDF _ _ _ [.fn (.func 112) [] [.ptr i 0], .fn (.func 86) [] []] h = _
  simp only [keysDF, hi, hj]
  generalize hks : (setD l).map (fun e => keyD e.1) = ks
  rw [setD_keys] at hks
  subst hks
  rw [if_pos ⟨rfl, rfl, keysDOK hn hl, ordIOK⟩]
theorem listD_lim {j : Nat} {l : List Id} (hn : l.Nodup) (hl : l.length ≤ 1048576) (hj : h[j]? = some (.map (setD l))) :
    lim Try.prog cfg 84 [.mp j] h = some (.list true 3 (idr (sortD l)), h ++ [.cells [.mp j]]) := by
  refine lim_fun fun84 rfl (by simp) rfl ?_
  delta cd84
  have e1 := keysD_lim (h := h) j
  have e2 := sortedD_lim (h := h ++ [.cells [.mp j]]) (i := h.length) (j := j) hn hl (by simp) (by rw [List.getElem?_append_left (List.getElem?_eq_some_iff.1 hj).1]; exact hj)
  simp -implicitDefEqProofs -dsimp only [go_sem, e1, e2]
theorem cleanD_lim (own : Bool) (l : List Id) (hl : l.length ≤ 1048576) : lim Try.prog cfg 67 [.list own 3 (idr l)] h = some (.list true 3 (idr (cleanP l)), h) := by
  refine lim_funp fun67 rfl (by simp) (by simp [heapFree, free_idr]) (by simp [heapFree, free_idr]) ?_
  delta cd67
  have e1 := ofD_lim (h := []) false [l] (by simp) (by simp; omega)
  have e2 := listD_lim (h := [.map (setD (setOf l))]) (j := 0) (l := setOf l) (setOf_nodup l) (by have := setOf_len l; omega) rfl
  simp only [idrs, List.map_cons, List.map_nil, List.flatten_cons, List.flatten_nil, List.append_nil, List.length_nil, List.nil_append] at e1
  simp -implicitDefEqProofs -dsimp only [go_sem, e1, e2]
  rfl
theorem unionD_lim (o1 o2 : Bool) (l m : List Id) (hl : l.length + m.length ≤ 1048576) : lim Try.prog cfg 61 [.list o1 3 (idr l), .list o2 3 (idr m)] h = some (.list true 3 (idr (cleanP (l ++ m))), h) := by
  refine lim_funp fun61 rfl (by simp) (by simp [heapFree, free_idr]) (by simp [heapFree, free_idr]) ?_
  delta cd61
  have e1 := ofD_lim (h := []) false [l, m] (by simp) (by simp; omega)
  have e2 := listD_lim (h := [.map (setD (setOf (l ++ m)))]) (j := 0) (l := setOf (l ++ m)) (setOf_nodup _) (by have := setOf_len (l ++ m); simp at this; omega) rfl
  simp only [idrs, List.map_cons, List.map_nil, List.flatten_cons, List.flatten_nil, List.append_nil, List.length_nil, List.nil_append] at e1
  simp -implicitDefEqProofs -dsimp only [go_sem, e1, e2]
  rfl
@[go_sem] theorem eqs_id (x y : Id) : eqs [0, 0, 0] [vi x.e, vi x.n, vi x.k] [vi y.e, vi y.n, vi y.k] = some (decide (x = y)) := by
  have := eqK_id x y
  simpa [eqKey] using this
theorem equalD_lim {i j : Nat} {l m : List Id} (hl : l.Nodup) (hm : m.Nodup) (h1 : l.length ≤ 1048576) (h2 : m.length ≤ 1048576) (hi : h[i]? = some (.map (setD l))) (hj : h[j]? = some (.map (setD m))) :
    lim Try.prog cfg 85 [.mp i, .mp j] h = some (vb (sameP l m), h) := by
  refine lim_ext rfl ?_ rfl
  show equalDF [.mp i, .mp j] h = _
  simp only [equalDF, hi, hj]
  generalize hks : (setD l).map (fun e => keyD e.1) = ks
  generalize hms : (setD m).map (fun e => keyD e.1) = ms
  rw [setD_keys] at hks hms
  subst hks; subst hms
  rw [if_pos ⟨keysDOK hl h1, keysDOK hm h2, rfl, rfl⟩]
theorem same_setOf (l m : List Id) : sameP (setOf l) (setOf m) = sameP l m := by
  rw [Bool.eq_iff_iff, sameP_iff, sameP_iff]
  simp only [mem_setOf]
theorem sameD_lim (o1 o2 : Bool) (l m : List Id) (h1 : l.length ≤ 1048576) (h2 : m.length ≤ 1048576) : lim Try.prog cfg 63 [.list o1 3 (idr l), .list o2 3 (idr m)] h = some (vb (sameP l m), h) := by
  refine lim_funp fun63 rfl (by simp) (by simp [heapFree, free_idr]) rfl ?_
  delta cd63
  have e1 := ofD_lim (h := []) false [l] (by simp) (by simp; omega)
  have e2 := ofD_lim (h := [.map (setD (setOf l))]) false [m] (by simp) (by simp; omega)
  have e3 := equalD_lim (h := [.map (setD (setOf l)), .map (setD (setOf m))]) (i := 0) (j := 1) (setOf_nodup l) (setOf_nodup m) (by have := setOf_len l; omega) (by have := setOf_len m; omega) rfl rfl
  rw [same_setOf] at e3
  simp only [idrs, List.map_cons, List.map_nil, List.flatten_cons, List.flatten_nil, List.append_nil, List.length_nil, List.nil_append, List.length_cons, List.cons_append] at e1 e2
  cases hc : sameP l m <;> rw [hc] at e3 <;> simp -implicitDefEqProofs -dsimp only [go_sem, e1, e2, e3]
theorem rightI_of (l : List Id) : rightI l = true ↔ ∀ i (h : i + 1 < l.length), lessI (l[i]'(by omega)) l[i + 1] = true := by
  induction l with
  | nil => simp [rightI]
  | cons a l ih =>
    cases l with
    | nil => simp [rightI]
    | cons b l =>
      simp only [rightI, Bool.and_eq_true, ih]
      constructor
      · rintro ⟨h1, h2⟩ i hi
        cases i with
        | zero => exact h1
        | succ i => exact h2 i (by simpa using hi)
      · intro hh
        exact ⟨hh 0 (by simp), fun i hi => hh (i + 1) (by simpa using hi)⟩
theorem rightD_lim (own : Bool) (l : List Id) (hl : l.length ≤ 1099511627776) : lim Try.prog cfg 34 [.list own 3 (idr l)] h = some (vb (rightI l), h) := by
  refine lim_funp fun34 rfl (by simp) (by simp [heapFree, free_idr]) rfl ?_
  delta cd34
  have w1 : IntKind.wrap .i64 ((l.length : Int) - 1) = (l.length : Int) - 1 := wrap64 (by omega) (by omega)
  have w2 : mmI true ((l.length : Int) - 1) 0 = ((l.length - 1 : Nat) : Int) := by unfold mmI; simp only [if_true]; split <;> omega
  simp -implicitDefEqProofs -dsimp only [go_sem, w1, w2]
  refine wp_for (σ := Nat) (fun k => [(0, .list false 3 (idr l)), (7, vi ((l.length - 1 : Nat) : Int)), (8, vi (k : Nat))]) (fun _ => []) (fun k => l.length - k) (fun k => k ≤ l.length - 1 ∧ ∀ i (h : i + 1 < l.length), i < k → lessI (l[i]'(by omega)) l[i + 1] = true) 0 (by simp) rfl rfl ?_
  rintro k ⟨hk, hb⟩ N hN
  by_cases hlt : k < l.length - 1
  · have h1 : ((k : Int) < ((l.length - 1 : Nat) : Int)) := by omega
    have i1 : k < l.length := by omega
    have i2 : k + 1 < l.length := by omega
    have e1 := lessD_lim (h := []) l[k] l[k + 1]
    have w3 : IntKind.wrap .i64 ((k : Int) + 1) = ((k + 1 : Nat) : Int) := wrap_succ (show k < 9223372036854775807 by omega)
    cases hc : lessI l[k] l[k + 1] with
    | true =>
      rw [hc] at e1
      simp -implicitDefEqProofs -dsimp only [go_sem, wp_RD, h1, i1, i2, w3, e1]
      refine hN (k + 1) _ (by omega) ⟨by omega, fun i hi hik => ?_⟩ ?_
      · by_cases e : i = k
        · subst e; exact hc
        · exact hb i hi (by omega)
      · simp -implicitDefEqProofs -dsimp only [go_sem]
    | false =>
      rw [hc] at e1
      have hr : rightI l = false := by
        rw [Bool.eq_false_iff]
        intro e
        rw [rightI_of] at e
        rw [e k i2] at hc
        cases hc
      rw [hr]
      simp -implicitDefEqProofs -dsimp only [go_sem, wp_RD, h1, i1, i2, w3, e1]
  · have h1 : ¬ ((k : Int) < ((l.length - 1 : Nat) : Int)) := by omega
    have hr : rightI l = true := (rightI_of l).2 fun i hi => hb i hi (by omega)
    rw [hr]
    simp -implicitDefEqProofs -dsimp only [go_sem, h1]
theorem indexD_lim (own : Bool) (l : List Id) (x : Id) (hl : l.length ≤ 1099511627776) :
    lim Try.prog cfg 87 [.list own 3 (idr l), .agg [vi x.e, vi x.n, vi x.k]] h = some (vi (posI (fun y => decide (x = y)) l), h) := by
  refine lim_funp fun87 rfl (by simp) (by simp [heapFree, heapFree.all, free_idr]) rfl ?_
  delta cd87
  simp -implicitDefEqProofs -dsimp only [go_sem]
  refine wp_for (σ := Nat) (fun k => [(0, .list false 3 (idr l)), (3, .box [vi x.e, vi x.n, vi x.k]), (7, vi (l.length : Nat)), (8, vi (k : Nat))]) (fun _ => []) (fun k => l.length - k) (fun k => k ≤ l.length ∧ ∀ j (hj : j < l.length), j < k → decide (x = l[j]) = false) 0 (by simp) rfl rfl ?_
  rintro k ⟨hk, hj⟩ N hN
  by_cases hlt : k < l.length
  · have h1 : ((k : Int) < (l.length : Int)) := by omega
    by_cases hc : x = l[k]
    · have e := posI_at (p := fun y => decide (x = y)) hlt (by simpa using hc) hj
      simp -implicitDefEqProofs -dsimp only [go_sem, wp_RD, h1, hlt, eq_true hc, e]
    · simp -implicitDefEqProofs -dsimp only [go_sem, wp_RD, h1, hlt, eq_false hc]
      refine hN (k + 1) _ (by omega) ⟨by omega, fun j hj1 hj2 => ?_⟩ ?_
      · by_cases e : j = k
        · subst e; simpa using hc
        · exact hj j hj1 (by omega)
      · simp -implicitDefEqProofs -dsimp only [go_sem, wrap_succ (show k < 9223372036854775807 by omega)]
  · have h1 : ¬ ((k : Int) < (l.length : Int)) := by omega
    have e := posI_no (p := fun y => decide (x = y)) (l := l) fun j hj1 => hj j hj1 (by omega)
    simp -implicitDefEqProofs -dsimp only [go_sem, h1, e]
theorem any_mem {α : Type} [DecidableEq α] (x : α) (l : List α) : l.any (fun y => decide (x = y)) = decide (x ∈ l) := by
  rw [Bool.eq_iff_iff]
  simp only [List.any_eq_true, decide_eq_true_eq]
  exact ⟨fun ⟨y, hy, e⟩ => e ▸ hy, fun h => ⟨x, h, rfl⟩⟩
theorem containsD_lim (own : Bool) (l : List Id) (x : Id) (hl : l.length ≤ 1099511627776) :
    lim Try.prog cfg 65 [.list own 3 (idr l), .agg [vi x.e, vi x.n, vi x.k]] h = some (vb (decide (x ∈ l)), h) := by
  refine lim_funp fun65 rfl (by simp) (by simp [heapFree, heapFree.all, free_idr]) rfl ?_
  delta cd65
  have e1 := indexD_lim (h := []) false l x hl
  have e2 := posI_ge (fun y => decide (x = y)) l
  rw [any_mem] at e2
  simp -implicitDefEqProofs -dsimp only [go_sem, e1, e2]
  simp
theorem hasD_lim (own : Bool) (l : List Id) (x : Id) (hl : l.length ≤ 1099511627776) :
    lim Try.prog cfg 35 [.list own 3 (idr l), .agg [vi x.e, vi x.n, vi x.k]] h = some (vb (decide (x ∈ l)), h) := by
  refine lim_funp fun35 rfl (by simp) (by simp [heapFree, heapFree.all, free_idr]) rfl ?_
  delta cd35
  have e1 := containsD_lim (h := []) false l x hl
  simp -implicitDefEqProofs -dsimp only [go_sem, e1]
  simp
end Go.DS

/-
  Walks: attributes.
-/
namespace Go.DS
open Go Go.Proofs
set_option maxRecDepth 100000
set_option linter.unusedVariables false
set_option linter.unusedSimpArgs false
def cd41 : Cd := .seq (R [c0 2 (.new false (.s 0)), c0 3 (.new false (.s 1)), cb 4 (.tk (.c (kb false)))] [2, 3, 6]) (.seq (.seq (R [c0 7 (.mov 1 (.s 3)), c0 8 (.ld false 1 (.s 7)), c0 9 (.len 1 (.s 8)), c0 10 (.mv (.c (ki .i64 0)))] [2, 3, 6, 8, 9, 10]) (.block 0 (LP [2, 3, 6, 8, 9, 10] (.seq (R [c0 11 (.bin .lss .any (.s 10) (.s 9))] [2, 3, 6, 8, 9, 10, 11]) (.seq (.ite (.s 11) (.skip) (.exit 0)) (.seq (.block 1 (.seq (R [c0 12 (.ixp 3 (.s 8) (.s 10)), c0 13 (.ld true 3 (.s 12)), c0 6 (.new false (.c (.agg [ki .i64 0, ki .i64 0, ki .i64 0]))), cn (.st 3 (.s 6) (.s 13))] [2, 3, 6, 8, 9, 10]) (.seq (R [c0 14 (.ld true 3 (.s 6)), c0 15 (.ld true 3 (.s 2)), cb 16 (.bin .eql (.flat [0, 0, 0]) (.s 14) (.s 15)), cb 17 (.mv (.s 16)), cg 18 17 false (.mov 0 (.s 6)), cg 19 17 false (.ld false 1 (.s 18)), cg 20 17 false (.mov 0 (.s 2)), cg 21 17 false (.ld false 1 (.s 20)), ch 22 17 false (.bin .neq .any (.s 19) (.s 21)), cb 23 (.pick (.s 17) (.c (kb true)) (.s 22)), cb 24 (.mv (.s 23)), cg 25 24 false (.ld true 3 (.s 6)), ch 26 24 false (.call none (.c (kf 70)) [(.s 25)]), ch 27 24 false (.un .not (.s 26)), cb 28 (.pick (.s 24) (.c (kb true)) (.s 27))] [2, 3, 6, 8, 9, 10, 28]) (.ite (.s 28) (.seq (R [cb 4 (.tk (.c (kb false)))] [2, 3, 4, 6]) (.ret)) (.skip))))) (R [c0 29 (.bin .add .any (.s 10) (.c (ki .i64 1))), c0 10 (.mv (.s 29))] [2, 3, 6, 8, 9, 10]))))))) (.seq (R [c0 30 (.mov 0 (.s 3)), c0 31 (.ld false 1 (.s 30)), cb 32 (.bin .leq .any (.c (ki .i64 0)) (.s 31)), cb 33 (.mv (.s 32)), cg 34 33 true (.mov 0 (.s 3)), cg 35 33 true (.ld false 1 (.s 34)), ch 36 33 true (.bin .leq .any (.s 35) (.c (ki .i64 1099511627776))), cb 37 (.pick (.s 33) (.s 36) (.c (kb false))), cb 38 (.mv (.s 37)), cg 39 38 true (.mov 1 (.s 3)), cg 40 38 true (.ld false 1 (.s 39)), cg 41 38 true (.len 1 (.s 40)), ch 42 38 true (.bin .leq .any (.s 41) (.c (ki .i64 1024))), cb 43 (.pick (.s 38) (.s 42) (.c (kb false))), cb 44 (.mv (.s 43)), cg 45 44 true (.mov 1 (.s 3)), cg 46 44 true (.ld false 1 (.s 45)), ch 47 44 true (.call none (.c (kf 34)) [(.s 46)]), cb 48 (.pick (.s 44) (.s 47) (.c (kb false))), cb 4 (.tk (.s 48))] [2, 3, 4, 6]) (.ret)))
theorem fun41 : Fun Try.prog cfg 41 49 cd41 [.s 4] := ⟨rfl, Try.f41, _, Try.func41, rfl, rfl, by kernel_rfl, by kernel_rfl⟩
@[go_sem] theorem ok41 : calleeOK Try.prog 41 = true := by kernel_rfl
@[go_sem] theorem ex41 : (cfg.ext 41).isSome = false := rfl
def cd66 : Cd := .seq (R [c0 3 (.new false (.s 0)), cb 4 (.tk (.c (kb false)))] [1, 2, 3]) (.seq (R [c0 5 (.mov 0 (.s 3)), c0 6 (.ld true 3 (.s 5)), c0 7 (.ld true 3 (.s 1)), cb 8 (.bin .neq (.flat [0, 0, 0]) (.s 6) (.s 7)), cb 9 (.mv (.s 8)), cg 10 9 true (.mov 0 (.s 3)), cg 11 9 true (.mov 0 (.s 10)), cg 12 9 true (.ld false 1 (.s 11)), cg 13 9 true (.mov 0 (.s 1)), cg 14 9 true (.ld false 1 (.s 13)), ch 15 9 true (.bin .eql .any (.s 12) (.s 14)), cb 16 (.pick (.s 9) (.s 15) (.c (kb false))), cb 17 (.mv (.s 16)), cg 18 17 true (.mov 3 (.s 3)), cg 19 17 true (.ld true 8 (.s 18)), cg 20 17 true (.ld true 8 (.s 2)), ch 21 17 true (.call none (.c (kf 39)) [(.s 19), (.s 20)]), cb 22 (.pick (.s 17) (.s 21) (.c (kb false))), cb 4 (.tk (.s 22))] [3, 4]) (.ret))
theorem fun66 : Fun Try.prog cfg 66 23 cd66 [.s 4] := ⟨rfl, Try.f66, _, Try.func66, rfl, rfl, by kernel_rfl, by kernel_rfl⟩
@[go_sem] theorem ok66 : calleeOK Try.prog 66 = true := by kernel_rfl
@[go_sem] theorem ex66 : (cfg.ext 66).isSome = false := rfl
def cd38 : Cd := .seq (R [c0 4 (.new false (.s 1)), c0 5 (.new false (.s 2)), c0 6 (.new false (.c (.agg [ki .i64 0, kn 3])))] [0, 4, 5, 6, 11]) (.seq (R [c0 12 (.mkf (.func 66) 0 [(.s 4), (.s 5)]), c0 7 (.tk (.s 12))] [0, 4, 5, 6, 7, 11]) (.seq (R [c0 8 (.tk (.c (kn 3)))] [0, 4, 5, 6, 7, 8, 11]) (.seq (R [c0 9 (.tk (.c (ki .i64 0)))] [0, 4, 5, 6, 7, 8, 9, 11]) (.seq (.seq (R [c0 13 (.mv (.s 0)), c0 14 (.len 1 (.s 13)), c0 15 (.mv (.c (ki .i64 0)))] [4, 5, 6, 7, 8, 9, 11, 13, 14, 15]) (.block 0 (LP [4, 5, 6, 7, 8, 9, 11, 13, 14, 15] (.seq (R [c0 16 (.bin .lss .any (.s 15) (.s 14))] [4, 5, 6, 7, 8, 9, 11, 13, 14, 15, 16]) (.seq (.ite (.s 16) (.skip) (.exit 0)) (.seq (.block 1 (.seq (R [c0 17 (.ixp 13 (.s 13) (.s 15)), c0 18 (.ld true 13 (.s 17)), c0 11 (.new false (.c (.agg [ki .i64 0, ki .i64 0, ki .i64 0, ki .i64 0, ki .i64 0, ki .i64 0, ks [], ks [], ki .i64 0, ki .i64 0, ki .i64 0, ki .i64 0, kn 3]))), cn (.st 13 (.s 11) (.s 18))] [4, 5, 6, 7, 8, 9, 11, 13, 14, 15]) (.seq (R [c0 19 (.mv (.s 7)), c0 20 (.ld true 13 (.s 11)), cb 21 (.call none (.s 19) [(.s 20)])] [4, 5, 6, 7, 8, 9, 11, 13, 14, 15, 21]) (.ite (.s 21) (.seq (R [c0 22 (.tk (.s 8)), c0 23 (.mov 0 (.s 11)), c0 24 (.ld true 3 (.s 23)), c0 25 (.bsl 3 [(.s 24)]), c0 26 (.app 3 28 false (.s 22) (.s 25)), c0 8 (.tk (.s 26))] [4, 5, 6, 7, 8, 9, 11, 13, 14, 15]) (R [c0 27 (.mv (.s 9)), c0 28 (.mov 11 (.s 11)), c0 29 (.mov 0 (.s 28)), c0 30 (.ld false 1 (.s 29)), c0 31 (.mm true (.s 27) (.s 30)), c0 9 (.tk (.s 31))] [4, 5, 6, 7, 8, 9, 11, 13, 14, 15])) (.skip))))) (R [c0 32 (.bin .add .any (.s 15) (.c (ki .i64 1))), c0 15 (.mv (.s 32))] [4, 5, 6, 7, 8, 9, 11, 13, 14, 15]))))))) (.seq (R [c0 33 (.mv (.s 9)), c0 34 (.bin .add .any (.s 33) (.c (ki .i64 1))), c0 35 (.mv (.s 8)), c0 36 (.call none (.c (kf 67)) [(.s 35)]), c0 37 (.bld [ki .i64 0, kz 3] [(0, 1, (.s 34)), (1, 1, (.s 36))]), cn (.st 2 (.s 6) (.s 37))] [4, 5, 6, 11]) (.ret))))))
theorem fun38 : Fun Try.prog cfg 38 38 cd38 [.b 6 true 2] := ⟨rfl, Try.f38, _, Try.func38, rfl, rfl, by kernel_rfl, by kernel_rfl⟩
@[go_sem] theorem ok38 : calleeOK Try.prog 38 = true := by kernel_rfl
@[go_sem] theorem ex38 : (cfg.ext 38).isSome = false := rfl
def cd31 : Cd := .seq (R [c0 2 (.new false (.s 0)), c0 3 (.new false (.s 1)), c0 4 (.new false (.c (.agg [ki .i64 0, kn 3])))] [2, 3, 4]) (.seq (RD [cd (some 5) false none (.mov 0 (.s 2)) false false [2], cd (some 6) false none (.ld false 1 (.s 5)) false false [5], cd (some 7) false none (.mov 0 (.s 3)) false false [3], cd (some 8) false none (.ld false 1 (.s 7)) false false [7], cd (some 9) false none (.mm true (.s 6) (.s 8)) false false [6, 8], cd (some 10) false none (.mov 1 (.s 2)) false false [2], cd (some 11) false none (.ld false 1 (.s 10)) false false [10], cd (some 12) false none (.mov 1 (.s 3)) false false [3], cd (some 13) false none (.ld false 1 (.s 12)) false false [12], cd (some 14) false none (.call none (.c (kf 61)) [(.s 11), (.s 13)]) false false [11, 13], cd (some 15) false none (.bld [ki .i64 0, kz 3] [(0, 1, (.s 9)), (1, 1, (.s 14))]) false false [9, 14], cd none false none (.st 2 (.s 4) (.s 15)) false false [4, 15]] [2, 3, 4] []) (.ret))
theorem fun31 : Fun Try.prog cfg 31 16 cd31 [.b 4 true 2] := ⟨rfl, Try.f31, _, Try.func31, rfl, rfl, by kernel_rfl, by kernel_rfl⟩
@[go_sem] theorem ok31 : calleeOK Try.prog 31 = true := by kernel_rfl
@[go_sem] theorem ex31 : (cfg.ext 31).isSome = false := rfl
def cd62 : Cd := .seq (R [c0 2 (.new false (.s 0)), c0 4 (.new false (.c (.agg [ki .i64 0, kn 3])))] [1, 2, 4, 6]) (.seq (.seq (R [c0 7 (.mv (.s 1)), c0 8 (.len 1 (.s 7)), c0 9 (.mv (.c (ki .i64 0)))] [2, 4, 6, 7, 8, 9]) (.block 0 (LP [2, 4, 6, 7, 8, 9] (.seq (R [c0 10 (.bin .lss .any (.s 9) (.s 8))] [2, 4, 6, 7, 8, 9, 10]) (.seq (.ite (.s 10) (.skip) (.exit 0)) (.seq (.block 1 (.seq (R [c0 11 (.ixp 2 (.s 7) (.s 9)), c0 12 (.ld true 2 (.s 11)), c0 6 (.new false (.c (.agg [ki .i64 0, kn 3]))), cn (.st 2 (.s 6) (.s 12))] [2, 4, 6, 7, 8, 9]) (R [c0 13 (.ld true 2 (.s 2)), c0 14 (.ld true 2 (.s 6)), c0 15 (.call none (.c (kf 31)) [(.s 13), (.s 14)]), cn (.st 2 (.s 2) (.s 15))] [2, 4, 6, 7, 8, 9]))) (R [c0 16 (.bin .add .any (.s 9) (.c (ki .i64 1))), c0 9 (.mv (.s 16))] [2, 4, 6, 7, 8, 9]))))))) (.seq (R [c0 17 (.ld true 2 (.s 2)), cn (.st 2 (.s 4) (.s 17))] [2, 4, 6]) (.ret)))
theorem fun62 : Fun Try.prog cfg 62 18 cd62 [.b 4 true 2] := ⟨rfl, Try.f62, _, Try.func62, rfl, rfl, by kernel_rfl, by kernel_rfl⟩
@[go_sem] theorem ok62 : calleeOK Try.prog 62 = true := by kernel_rfl
@[go_sem] theorem ex62 : (cfg.ext 62).isSome = false := rfl
def cd32 : Cd := .seq (R [c0 2 (.new false (.c (.agg [ki .i64 0, kn 3])))] [0, 2]) (.seq (.seq (R [c0 3 (.mv (.s 0)), c0 4 (.len 1 (.s 3)), cb 5 (.bin .eql .any (.s 4) (.c (ki .i64 0)))] [0, 2, 5]) (.ite (.s 5) (.seq (R [c0 6 (.bld [ki .i64 0, kz 3] []), cn (.st 2 (.s 2) (.s 6))] [2]) (.ret)) (.skip))) (.seq (R [c0 7 (.mv (.s 0)), c0 8 (.ixp 2 (.s 7) (.c (ki .i64 0))), c0 9 (.mov 0 (.s 8)), c0 10 (.ld false 1 (.s 9)), c0 11 (.bld [ki .i64 0, kz 3] [(0, 1, (.s 10))]), c0 12 (.mv (.s 0)), c0 13 (.call none (.c (kf 62)) [(.s 11), (.s 12)]), cn (.st 2 (.s 2) (.s 13))] [2]) (.ret)))
theorem fun32 : Fun Try.prog cfg 32 14 cd32 [.b 2 true 2] := ⟨rfl, Try.f32, _, Try.func32, rfl, rfl, by kernel_rfl, by kernel_rfl⟩
@[go_sem] theorem ok32 : calleeOK Try.prog 32 = true := by kernel_rfl
@[go_sem] theorem ex32 : (cfg.ext 32).isSome = false := rfl
def cd33 : Cd := .seq (R [c0 2 (.new false (.s 0)), c0 3 (.new false (.s 1)), cb 4 (.tk (.c (kb false)))] [2, 3]) (.seq (R [c0 5 (.mov 0 (.s 2)), c0 6 (.ld false 1 (.s 5)), c0 7 (.mov 0 (.s 3)), c0 8 (.ld false 1 (.s 7)), cb 9 (.bin .eql .any (.s 6) (.s 8)), cb 10 (.mv (.s 9)), cg 11 10 true (.mov 1 (.s 2)), cg 12 10 true (.ld false 1 (.s 11)), cg 13 10 true (.mov 1 (.s 3)), cg 14 10 true (.ld false 1 (.s 13)), ch 15 10 true (.call none (.c (kf 63)) [(.s 12), (.s 14)]), cb 16 (.pick (.s 10) (.s 15) (.c (kb false))), cb 4 (.tk (.s 16))] [2, 3, 4]) (.ret))
theorem fun33 : Fun Try.prog cfg 33 17 cd33 [.s 4] := ⟨rfl, Try.f33, _, Try.func33, rfl, rfl, by kernel_rfl, by kernel_rfl⟩
@[go_sem] theorem ok33 : calleeOK Try.prog 33 = true := by kernel_rfl
@[go_sem] theorem ex33 : (cfg.ext 33).isSome = false := rfl
def cd40 : Cd := .seq (R [c0 2 (.new false (.s 0)), c0 3 (.new false (.s 1)), cb 4 (.tk (.c (kb false)))] [2, 3]) (.seq (R [c0 5 (.mov 11 (.s 3)), c0 6 (.mov 1 (.s 5)), c0 7 (.ld false 1 (.s 6)), c0 8 (.mov 0 (.s 2)), c0 9 (.ld true 3 (.s 8)), cb 10 (.call none (.c (kf 35)) [(.s 7), (.s 9)]), cb 11 (.mv (.s 10)), cg 12 11 false (.mov 11 (.s 2)), cg 13 11 false (.mov 1 (.s 12)), cg 14 11 false (.ld false 1 (.s 13)), cg 15 11 false (.mov 0 (.s 3)), cg 16 11 false (.ld true 3 (.s 15)), ch 17 11 false (.call none (.c (kf 35)) [(.s 14), (.s 16)]), cb 18 (.pick (.s 11) (.c (kb true)) (.s 17)), cb 4 (.tk (.s 18))] [2, 3, 4]) (.ret))
theorem fun40 : Fun Try.prog cfg 40 19 cd40 [.s 4] := ⟨rfl, Try.f40, _, Try.func40, rfl, rfl, by kernel_rfl, by kernel_rfl⟩
@[go_sem] theorem ok40 : calleeOK Try.prog 40 = true := by kernel_rfl
@[go_sem] theorem ex40 : (cfg.ext 40).isSome = false := rfl
def cd60 : Cd := .seq (R [cb 2 (.tk (.c (kb false)))] [0, 4]) (.seq (.seq (R [c0 5 (.mv (.s 0)), c0 6 (.len 1 (.s 5)), c0 7 (.mv (.c (ki .i64 0)))] [0, 4, 5, 6, 7]) (.block 0 (LP [0, 4, 5, 6, 7] (.seq (R [c0 8 (.bin .lss .any (.s 7) (.s 6))] [0, 4, 5, 6, 7, 8]) (.seq (.ite (.s 8) (.skip) (.exit 0)) (.seq (.block 1 (.seq (R [c0 9 (.ixp 2 (.s 5) (.s 7)), c0 10 (.ld true 2 (.s 9)), c0 4 (.new false (.c (.agg [ki .i64 0, kn 3]))), cn (.st 2 (.s 4) (.s 10))] [0, 4, 5, 6, 7]) (.seq (RD [cd (some 11) false none (.ld true 2 (.s 4)) false false [4], cd (some 12) false none (.mv (.s 0)) false false [0], cd (some 13) false none (.ixp 2 (.s 12) (.c (ki .i64 0))) false false [12], cd (some 14) false none (.ld true 2 (.s 13)) false false [13], cd (some 15) true none (.call none (.c (kf 33)) [(.s 11), (.s 14)]) false false [11, 14], cd (some 16) true none (.un .not (.s 15)) false false [15]] [0, 4, 5, 6, 7, 16] []) (.ite (.s 16) (.seq (R [cb 2 (.tk (.c (kb false)))] [2, 4]) (.ret)) (.skip))))) (R [c0 17 (.bin .add .any (.s 7) (.c (ki .i64 1))), c0 7 (.mv (.s 17))] [0, 4, 5, 6, 7]))))))) (.seq (R [c0 18 (.mv (.s 0)), c0 19 (.len 1 (.s 18)), cb 20 (.bin .gtr .any (.s 19) (.c (ki .i64 0))), cb 2 (.tk (.s 20))] [2, 4]) (.ret)))
theorem fun60 : Fun Try.prog cfg 60 21 cd60 [.s 2] := ⟨rfl, Try.f60, _, Try.func60, rfl, rfl, by kernel_rfl, by kernel_rfl⟩
@[go_sem] theorem ok60 : calleeOK Try.prog 60 = true := by kernel_rfl
@[go_sem] theorem ex60 : (cfg.ext 60).isSome = false := rfl
variable {h : DHeap}
abbrev attL (a : Att) : List DV := [vi a.seq, .list false 3 (idr a.deps)]
abbrev attD (a : Att) : DV := .agg [vi a.seq, .list false 3 (idr a.deps)]
def ats (l : List Att) : List (List DV) := l.map fun a => [vi a.seq, .list false 3 (idr a.deps)]
@[go_sem] theorem ats_len (l : List Att) : (ats l).length = l.length := by simp [ats]
@[go_sem] theorem ats_snoc (l : List Att) (a : Att) : ats l ++ [[.sc (.int .i64 a.seq), .list false 3 (idr a.deps)]] = ats (l ++ [a]) := by simp [ats]
@[go_sem high] theorem idxP_ats (l : List Att) (i : Int) (N : List DV → Prop) : IdxP (ats l) i N = IdxP l i fun a => N [vi a.seq, .list false 3 (idr a.deps)] := idxP_map
theorem free_ats : ∀ l : List Att, heapFree.alls (ats l) = true
  | [] => rfl
  | s :: l => by
    have := free_ats l
    simp only [ats] at this
    simp only [ats, List.map_cons, heapFree.alls, heapFree.all, heapFree, this, free_idr, Bool.and_self]
abbrev knoL (x : Kno) : List DV := [vi x.id.e, vi x.id.n, vi x.id.k, vi x.cmd.client, vi x.cmd.seq, vi x.cmd.op, vs x.cmd.path, vs x.cmd.value, vi x.cmd.version, vi x.cmd.a, vi x.cmd.b, vi x.att.seq, .list false 3 (idr x.att.deps)]
abbrev knoD (x : Kno) : DV := .agg [vi x.id.e, vi x.id.n, vi x.id.k, vi x.cmd.client, vi x.cmd.seq, vi x.cmd.op, vs x.cmd.path, vs x.cmd.value, vi x.cmd.version, vi x.cmd.a, vi x.cmd.b, vi x.att.seq, .list false 3 (idr x.att.deps)]
def kns (l : List Kno) : List (List DV) := l.map fun x => [vi x.id.e, vi x.id.n, vi x.id.k, vi x.cmd.client, vi x.cmd.seq, vi x.cmd.op, vs x.cmd.path, vs x.cmd.value, vi x.cmd.version, vi x.cmd.a, vi x.cmd.b, vi x.att.seq, .list false 3 (idr x.att.deps)]
@[go_sem] theorem kns_len (l : List Kno) : (kns l).length = l.length := by simp [kns]
@[go_sem high] theorem idxP_kns (l : List Kno) (i : Int) (N : List DV → Prop) : IdxP (kns l) i N = IdxP l i fun x => N [vi x.id.e, vi x.id.n, vi x.id.k, vi x.cmd.client, vi x.cmd.seq, vi x.cmd.op, vs x.cmd.path, vs x.cmd.value, vi x.cmd.version, vi x.cmd.a, vi x.cmd.b, vi x.att.seq, .list false 3 (idr x.att.deps)] := idxP_map
theorem free_kns : ∀ l : List Kno, heapFree.alls (kns l) = true
  | [] => rfl
  | s :: l => by
    have := free_kns l
    simp only [kns] at this
    simp only [kns, List.map_cons, heapFree.alls, heapFree.all, heapFree, this, free_idr, Bool.and_self]
theorem mmI_max (a b : Int) : mmI true a b = max a b := by unfold mmI; simp only [if_true]; split <;> omega
def depOK (id x : Id) : Bool := decide (x ≠ id) && decide (x.e = id.e) && validI x
theorem validA_eq (id : Id) (a : Att) : validA id a = (a.deps.all (depOK id) && (decide (0 ≤ a.seq) && decide (a.seq ≤ 1099511627776)) && decide (a.deps.length ≤ 1024) && rightI a.deps) := rfl
set_option maxHeartbeats 1000000 in
theorem validA_lim (id : Id) (a : Att) (hl : a.deps.length ≤ 1099511627776) : lim Try.prog cfg 41 [.agg [vi id.e, vi id.n, vi id.k], attD a] h = some (vb (validA id a), h) := by
  refine lim_funp fun41 rfl (by simp) (by simp [heapFree, heapFree.all, free_idr]) rfl ?_
  delta cd41
  rw [validA_eq]
  obtain ⟨seq, deps⟩ := a
  dsimp only at hl ⊢
  simp -implicitDefEqProofs -dsimp only [go_sem]
  refine wp_for (σ := Nat × DV) (fun k => [(2, .box [vi id.e, vi id.n, vi id.k]), (3, .box [vi seq, .list false 3 (idr deps)]), (6, k.2), (8, .list false 3 (idr deps)), (9, vi (deps.length : Nat)), (10, vi (k.1 : Nat))]) (fun _ => []) (fun k => deps.length - k.1) (fun k => k.1 ≤ deps.length ∧ ∀ j (hj : j < deps.length), j < k.1 → depOK id deps[j] = true) (0, .junk) (by simp) rfl rfl ?_
  rintro ⟨k, y⟩ ⟨hk, hj⟩ N hN
  dsimp only at hk hj
  by_cases hlt : k < deps.length
  · have h1 : ((k : Int) < (deps.length : Int)) := by omega
    have e1 := validD_lim (h := []) deps[k]
    have go : depOK id deps[k] = true → ∀ (z : DV) a', keepA (some [2, 3, 6, 8, 9, 10]) a' = [(2, .box [vi id.e, vi id.n, vi id.k]), (3, .box [vi seq, .list false 3 (idr deps)]), (6, z), (8, .list false 3 (idr deps)), (9, vi (deps.length : Nat)), (10, vi ((k + 1 : Nat) : Int))] → N a' [] := fun hd z a' ha => by
      refine hN (k + 1, z) a' (by dsimp only; omega) ⟨by dsimp only; omega, fun j hj1 hj2 => ?_⟩ ha
      by_cases e : j = k
      · subst e; exact hd
      · exact hj j hj1 (by dsimp only at hj2; omega)
    have no : depOK id deps[k] = false → deps.all (depOK id) = false := fun hd => by
      rw [Bool.eq_false_iff]
      intro q
      rw [List.all_eq_true] at q
      rw [q _ (List.getElem_mem hlt)] at hd
      cases hd
    by_cases c1 : deps[k] = id
    · have hd : depOK id deps[k] = false := by simp [depOK, c1]
      simp -implicitDefEqProofs -dsimp only [go_sem, h1, hlt, eq_true c1, no hd]
      rfl
    · by_cases c2 : deps[k].e = id.e
      · cases c3 : validI deps[k] with
        | true =>
          rw [c3] at e1
          have hd : depOK id deps[k] = true := by simp [depOK, c1, c2, c3]
          simp -implicitDefEqProofs -dsimp only [go_sem, h1, hlt, eq_false c1, eq_true c2, e1]
          refine go hd (.box [vi deps[k].e, vi deps[k].n, vi deps[k].k]) _ ?_
          simp -implicitDefEqProofs -dsimp only [go_sem, wrap_succ (show k < 9223372036854775807 by omega)]
        | false =>
          rw [c3] at e1
          have hd : depOK id deps[k] = false := by simp [depOK, c3]
          simp -implicitDefEqProofs -dsimp only [go_sem, h1, hlt, eq_false c1, eq_true c2, e1, no hd]
          rfl
      · have hd : depOK id deps[k] = false := by simp [depOK, c2]
        simp -implicitDefEqProofs -dsimp only [go_sem, h1, hlt, eq_false c1, eq_false c2, no hd]
        rfl
  · have h1 : ¬ ((k : Int) < (deps.length : Int)) := by omega
    have hall : deps.all (depOK id) = true := by
      rw [List.all_eq_true]
      intro x hx
      obtain ⟨j, hj1, rfl⟩ := List.getElem_of_mem hx
      exact hj j hj1 (by omega)
    have e2 := rightD_lim (h := []) false deps hl
    rw [hall]
    by_cases c1 : 0 ≤ seq
    · by_cases c2 : seq ≤ 1099511627776
      · by_cases c3 : deps.length ≤ 1024
        · have c3' : (deps.length : Int) ≤ 1024 := by omega
          cases c4 : rightI deps <;> rw [c4] at e2 <;> simp -implicitDefEqProofs -dsimp only [go_sem, h1, c1, c2, c3, c3', e2] <;> simp [c1, c2, c3]
        · have c3' : ¬ (deps.length : Int) ≤ 1024 := by omega
          simp -implicitDefEqProofs -dsimp only [go_sem, h1, c1, c2, c3, c3', e2] <;> simp [c1, c2, c3]
      · simp -implicitDefEqProofs -dsimp only [go_sem, h1, c1, c2, e2] <;> simp [c1, c2]
    · simp -implicitDefEqProofs -dsimp only [go_sem, h1, c1, e2] <;> simp [c1]
theorem merge_lim (a b : Att) (hl : a.deps.length + b.deps.length ≤ 1048576) : lim Try.prog cfg 31 [attD a, attD b] h = some (attD (mergeP a b), h) := by
  refine lim_funp fun31 rfl (by simp) (by simp [heapFree, heapFree.all, free_idr]) (by simp [heapFree, heapFree.all, free_idr]) ?_
  delta cd31
  have e1 := unionD_lim (h := []) false false a.deps b.deps hl
  simp -implicitDefEqProofs -dsimp only [go_sem, wp_RD, e1, mmI_max]
  rfl
theorem fold_len (f : Att) (l : List Att) (k B : Nat) (h : ∀ a ∈ l, a.deps.length ≤ B) : ((l.take k).foldl mergeP f).deps.length ≤ f.deps.length + k * B := by
  induction k generalizing f l with
  | zero => simp
  | succ k ih =>
    cases l with
    | nil => simp
    | cons a l =>
      rw [List.take_succ_cons, List.foldl_cons]
      have h1 := ih (mergeP f a) l fun x hx => h x (List.mem_cons_of_mem _ hx)
      have h2 := merge_len f a
      have h3 := h a List.mem_cons_self
      rw [Nat.succ_mul]
      omega
theorem foldA_lim (own : Bool) (f : Att) (l : List Att) (hf : f.deps.length ≤ 1000) (hl : l.length ≤ 500) (hs : ∀ a ∈ l, a.deps.length ≤ 1000) : lim Try.prog cfg 62 [attD f, .list own 2 (ats l)] h = some (attD (l.foldl mergeP f), h) := by
  refine lim_funp fun62 rfl (by simp) (by simp [heapFree, heapFree.all, free_idr, free_ats]) (by simp [heapFree, heapFree.all, free_idr]) ?_
  delta cd62
  simp -implicitDefEqProofs -dsimp only [go_sem]
  refine wp_for (σ := Nat × DV) (fun k => [(2, .box (attL ((l.take k.1).foldl mergeP f))), (4, .box [vi 0, .list false 3 []]), (6, k.2), (7, .list false 2 (ats l)), (8, vi (l.length : Nat)), (9, vi (k.1 : Nat))]) (fun _ => []) (fun k => l.length - k.1) (fun k => k.1 ≤ l.length) (0, .junk) (by simp) rfl rfl ?_
  rintro ⟨k, y⟩ hk N hN
  dsimp only at hk
  by_cases hlt : k < l.length
  · have h1 : ((k : Int) < (l.length : Int)) := by omega
    have e0 := fold_len f l k 1000 hs
    have e1 := merge_lim (h := []) ((l.take k).foldl mergeP f) l[k] (by have := hs _ (List.getElem_mem hlt); omega)
    have e2 : mergeP ((l.take k).foldl mergeP f) l[k] = (l.take (k + 1)).foldl mergeP f := by rw [List.take_succ_eq_append_getElem hlt, List.foldl_append]; rfl
    rw [e2] at e1
    simp -implicitDefEqProofs -dsimp only [go_sem, h1, hlt, e1]
    refine hN (k + 1, .box (attL l[k])) _ (by dsimp only; omega) (by dsimp only; omega) ?_
    simp -implicitDefEqProofs -dsimp only [go_sem, wrap_succ (show k < 9223372036854775807 by omega)]
  · have h1 : ¬ ((k : Int) < (l.length : Int)) := by omega
    have hkl : l.take k = l := List.take_of_length_le (by omega)
    rw [hkl]
    simp -implicitDefEqProofs -dsimp only [go_sem, h1]
theorem allA_lim (own : Bool) (l : List Att) (hl : l.length ≤ 500) (hs : ∀ a ∈ l, a.deps.length ≤ 1000) : lim Try.prog cfg 32 [.list own 2 (ats l)] h = some (attD (allA l), h) := by
  refine lim_funp fun32 rfl (by simp) (by simp [heapFree, free_ats]) (by simp [heapFree, heapFree.all, free_idr]) ?_
  delta cd32
  by_cases hz : l.length = 0
  · have : l = [] := List.eq_nil_of_length_eq_zero hz
    subst this
    simp -implicitDefEqProofs -dsimp only [go_sem]
    rfl
  · have hlt : 0 < l.length := by omega
    have e1 : lim Try.prog cfg 62 [.agg [vi l[0].seq, .list false 3 []], .list false 2 (ats l)] [] = some (attD (l.foldl mergeP ⟨l[0].seq, []⟩), []) := foldA_lim (h := []) false ⟨l[0].seq, []⟩ l (by simp) hl hs
    have e2 : l.foldl mergeP ⟨l[0].seq, []⟩ = allA l := by
      cases l with
      | nil => simp at hlt
      | cons a l => rfl
    rw [e2] at e1
    have h0 : ¬ ((l.length : Nat) : Int) = 0 := by omega
    simp -implicitDefEqProofs -dsimp only [go_sem, h0, hlt, e1]
theorem sameA_lim (a b : Att) (h1 : a.deps.length ≤ 1048576) (h2 : b.deps.length ≤ 1048576) : lim Try.prog cfg 33 [attD a, attD b] h = some (vb (sameA a b), h) := by
  refine lim_funp fun33 rfl (by simp) (by simp [heapFree, heapFree.all, free_idr]) rfl ?_
  delta cd33
  have e1 := sameD_lim (h := []) false false a.deps b.deps h1 h2
  unfold sameA
  by_cases c1 : a.seq = b.seq
  · cases c2 : sameP a.deps b.deps <;> rw [c2] at e1 <;> simp -implicitDefEqProofs -dsimp only [go_sem, eq_true c1, e1]
  · simp -implicitDefEqProofs -dsimp only [go_sem, eq_false c1, e1]
    rfl
theorem linked_lim (a b : Kno) (h1 : a.att.deps.length ≤ 1048576) (h2 : b.att.deps.length ≤ 1048576) : lim Try.prog cfg 40 [knoD a, knoD b] h = some (vb (linkedP a b), h) := by
  refine lim_funp fun40 rfl (by simp) (by simp [heapFree, heapFree.all, free_idr]) rfl ?_
  delta cd40
  have e1 := hasD_lim (h := []) false b.att.deps a.id (by omega)
  have e2 := hasD_lim (h := []) false a.att.deps b.id (by omega)
  unfold linkedP
  cases c1 : decide (a.id ∈ b.att.deps) <;> cases c2 : decide (b.id ∈ a.att.deps) <;> rw [c1] at e1 <;> rw [c2] at e2 <;> simp -implicitDefEqProofs -dsimp only [go_sem, e1, e2]
theorem matters_lim (x : Kno) (id : Id) (c : Cmd) (hx : x.cmd.path.length ≤ 1099511627776) (hc : c.path.length ≤ 1099511627776) :
    lim Try.prog cfg 66 [knoD x, .eptr [vi id.e, vi id.n, vi id.k], .eptr (cmdL c)] h = some (vb (matters id c x), h) := by
  refine lim_funp fun66 rfl (by simp) (by simp [heapFree, heapFree.all, free_idr]) rfl ?_
  delta cd66
  have e1 := both_lim (h := []) x.cmd c hx hc
  unfold matters
  by_cases c1 : x.id = id
  · simp -implicitDefEqProofs -dsimp only [go_sem, eq_true c1, e1]
    simp [c1]
  · by_cases c2 : x.id.e = id.e
    · cases c3 : bothB x.cmd c <;> rw [c3] at e1 <;> simp -implicitDefEqProofs -dsimp only [go_sem, eq_false c1, eq_true c2, e1] <;> simp [c1, c2]
    · simp -implicitDefEqProofs -dsimp only [go_sem, eq_false c1, eq_false c2, e1]
      simp [c2]
theorem agree_iff (l : List Att) (hl : 0 < l.length) : (∀ j (hj : j < l.length), sameA l[j] l[0] = true) ↔ ∀ a ∈ l, sameA a l[0] = true :=
  ⟨fun h a ha => by obtain ⟨j, hj, rfl⟩ := List.getElem_of_mem ha; exact h j hj, fun h j hj => h _ (List.getElem_mem hj)⟩
/-- Are all the same? -/
def agreeP (l : List Att) : Bool := match l with
  | [] => false
  | a :: l => (a :: l).all fun b => sameA b a
theorem agreeP_at (l : List Att) (hl : 0 < l.length) : agreeP l = l.all fun b => sameA b l[0] := by
  cases l with
  | nil => simp at hl
  | cons a l => rfl
theorem agree_lim (own : Bool) (l : List Att) (hl : l.length ≤ 1000000) (hs : ∀ a ∈ l, a.deps.length ≤ 1048576) : lim Try.prog cfg 60 [.list own 2 (ats l)] h = some (vb (agreeP l), h) := by
  refine lim_funp fun60 rfl (by simp) (by simp [heapFree, free_ats]) rfl ?_
  delta cd60
  simp -implicitDefEqProofs -dsimp only [go_sem]
  refine wp_for (σ := Nat × DV) (fun k => [(0, .list false 2 (ats l)), (4, k.2), (5, .list false 2 (ats l)), (6, vi (l.length : Nat)), (7, vi (k.1 : Nat))]) (fun _ => []) (fun k => l.length - k.1) (fun k => k.1 ≤ l.length ∧ ∀ j (hj : j < l.length), j < k.1 → sameA l[j] (l[0]'(by omega)) = true) (0, .junk) (by simp) rfl rfl ?_
  rintro ⟨k, y⟩ ⟨hk, hj⟩ N hN
  dsimp only at hk hj
  by_cases hlt : k < l.length
  · have h0 : 0 < l.length := by omega
    have h1 : ((k : Int) < (l.length : Int)) := by omega
    have e1 := sameA_lim (h := []) l[k] l[0] (hs _ (List.getElem_mem hlt)) (hs _ (List.getElem_mem h0))
    cases c1 : sameA l[k] l[0] with
    | true =>
      rw [c1] at e1
      simp -implicitDefEqProofs -dsimp only [go_sem, wp_RD, h0, h1, hlt, e1]
      refine hN (k + 1, .box (attL l[k])) _ (by dsimp only; omega) ⟨by dsimp only; omega, fun j hj1 hj2 => ?_⟩ ?_
      · by_cases e : j = k
        · subst e; exact c1
        · exact hj j hj1 (by dsimp only at hj2; omega)
      · simp -implicitDefEqProofs -dsimp only [go_sem, wrap_succ (show k < 9223372036854775807 by omega)]
    | false =>
      rw [c1] at e1
      have hr : agreeP l = false := by
        rw [agreeP_at l h0, Bool.eq_false_iff]
        intro q
        rw [List.all_eq_true] at q
        rw [q _ (List.getElem_mem hlt)] at c1
        cases c1
      rw [hr]
      simp -implicitDefEqProofs -dsimp only [go_sem, wp_RD, h0, h1, hlt, e1]
  · have h1 : ¬ ((k : Int) < (l.length : Int)) := by omega
    by_cases h0 : 0 < l.length
    · have hr : agreeP l = true := by
        rw [agreeP_at l h0, List.all_eq_true]
        exact (agree_iff l h0).1 fun j hj1 => hj j hj1 (by omega)
      have h2 : (0 : Int) < (l.length : Int) := by omega
      rw [hr]
      simp -implicitDefEqProofs -dsimp only [go_sem, h1, h2]
    · have hr : agreeP l = false := by
        cases l with
        | nil => rfl
        | cons a l => simp at h0
      have h2 : ¬ (0 : Int) < (l.length : Int) := by omega
      rw [hr]
      simp -implicitDefEqProofs -dsimp only [go_sem, h1, h2]
/-- How far 'Local' is. -/
def locN (l : List Kno) (id : Id) (c : Cmd) : Int := (l.filter (matters id c)).foldl (fun n x => max n x.att.seq) 0
def locD (l : List Kno) (id : Id) (c : Cmd) : List Id := (l.filter (matters id c)).map (·.id)
theorem local_eq (l : List Kno) (id : Id) (c : Cmd) : localP l id c = ⟨locN l id c + 1, cleanP (locD l id c)⟩ := rfl
theorem loc_snoc (l : List Kno) (x : Kno) (id : Id) (c : Cmd) : locN (l ++ [x]) id c = (if matters id c x then max (locN l id c) x.att.seq else locN l id c) ∧ locD (l ++ [x]) id c = (if matters id c x then locD l id c ++ [x.id] else locD l id c) := by
  unfold locN locD
  rw [List.filter_append]
  cases hm : matters id c x <;> simp [hm]
theorem locD_len (l : List Kno) (id : Id) (c : Cmd) : (locD l id c).length ≤ l.length := by
  unfold locD; rw [List.length_map]; exact List.length_filter_le ..
theorem locN_le (l : List Kno) (id : Id) (c : Cmd) (B : Int) (hB : 0 ≤ B) (h : ∀ x ∈ l, x.att.seq ≤ B) : locN l id c ≤ B := foldl_max_le _ 0 B hB fun x hx => h x (List.mem_filter.1 hx).1
theorem locN_ge (l : List Kno) (id : Id) (c : Cmd) : 0 ≤ locN l id c := (foldl_max_ge _ 0).1
set_option maxHeartbeats 1000000 in
theorem local_lim (own : Bool) (l : List Kno) (id : Id) (c : Cmd) (hl : l.length ≤ 100000) (hs : ∀ x ∈ l, x.cmd.path.length ≤ 1099511627776 ∧ x.att.seq ≤ 9223372036854775806) (hc : c.path.length ≤ 1099511627776) :
    lim Try.prog cfg 38 [.list own 13 (kns l), .agg [vi id.e, vi id.n, vi id.k], cmdD c] h = some (attD (localP l id c), h) := by
  refine lim_funp fun38 rfl (by simp) (by simp [heapFree, heapFree.all, free_kns]) (by simp [heapFree, heapFree.all, free_idr]) ?_
  delta cd38
  rw [local_eq]
  simp -implicitDefEqProofs -dsimp only [go_sem]
  refine wp_for (σ := Nat × DV) (fun k => [(4, .eptr [vi id.e, vi id.n, vi id.k]), (5, .eptr (cmdL c)), (6, .box [vi 0, .list false 3 []]), (7, .fn (.func 66) [] [.eptr [vi id.e, vi id.n, vi id.k], .eptr (cmdL c)]), (8, .list true 3 (idr (locD (l.take k.1) id c))), (9, vi (locN (l.take k.1) id c)), (11, k.2), (13, .list false 13 (kns l)), (14, vi (l.length : Nat)), (15, vi (k.1 : Nat))]) (fun _ => []) (fun k => l.length - k.1) (fun k => k.1 ≤ l.length) (0, .junk) (by simp) rfl rfl ?_
  rintro ⟨k, y⟩ hk N hN
  dsimp only at hk
  by_cases hlt : k < l.length
  · have h1 : ((k : Int) < (l.length : Int)) := by omega
    have e1 := matters_lim (h := []) l[k] id c (hs _ (List.getElem_mem hlt)).1 hc
    obtain ⟨s1, s2⟩ := loc_snoc (l.take k) l[k] id c
    rw [← List.take_succ_eq_append_getElem hlt] at s1 s2
    have hlen : (locD (l.take k) id c).length ≤ 100000 := by have := locD_len (l.take k) id c; rw [List.length_take] at this; omega
    have hm : ((locD (l.take k) id c).length + 1) * 28 ≤ maxLenD := by unfold maxLenD; omega
    cases c1 : matters id c l[k] with
    | true =>
      rw [c1] at e1 s1 s2
      simp only [if_true] at s1 s2
      simp -implicitDefEqProofs -dsimp only [go_sem, h1, hlt, e1, hm, mmI_max]
      rw [← s1, ← s2]
      refine hN (k + 1, .box (knoL l[k])) _ (by dsimp only; omega) (by dsimp only; omega) ?_
      simp -implicitDefEqProofs -dsimp only [go_sem, wrap_succ (show k < 9223372036854775807 by omega)]
    | false =>
      rw [c1] at e1 s1 s2
      simp only [Bool.false_eq_true, if_false] at s1 s2
      simp -implicitDefEqProofs -dsimp only [go_sem, h1, hlt, e1]
      rw [← s1, ← s2]
      refine hN (k + 1, .box (knoL l[k])) _ (by dsimp only; omega) (by dsimp only; omega) ?_
      simp -implicitDefEqProofs -dsimp only [go_sem, wrap_succ (show k < 9223372036854775807 by omega)]
  · have h1 : ¬ ((k : Int) < (l.length : Int)) := by omega
    have hkl : l.take k = l := List.take_of_length_le (by omega)
    rw [hkl]
    have g1 := locN_ge l id c
    have g2 := locN_le l id c 9223372036854775806 (by omega) fun x hx => (hs x hx).2
    have g3 : IntKind.wrap .i64 (locN l id c + 1) = locN l id c + 1 := wrap64 (by omega) (by omega)
    have e1 := cleanD_lim (h := []) false (locD l id c) (by have := locD_len l id c; omega)
    simp -implicitDefEqProofs -dsimp only [go_sem, h1, g3, e1]
end Go.DS

/-
  Arguments, opened: lists of texts.
-/
namespace Go.DS
open Go Go.Proofs Go.ChangeShapes Go.WideShapes Go.RowKit Go.Proofs.Ytdiaecagkgbjcaa Go.Deep
set_option linter.unusedVariables false
set_option linter.unusedSimpArgs false

theorem own' : ownKnob Try.prog.godebug = none := by kernel_rfl
theorem laidOut' : laidOutB Try.prog = true := by kernel_rfl
theorem bulk_get {H : Type} : ∀ {l : List (DataW H)} {d : DataW H}, d ∈ l → Rows.uptoBulk d ≤ Rows.uptoBulkAll l
  | x :: l, d, h => by
    simp only [Rows.uptoBulkAll]
    rcases List.mem_cons.1 h with rfl | h
    · omega
    · have := bulk_get h; omega
theorem bulk_pos {H : Type} (d : DataW H) : 1 ≤ Rows.uptoBulk d := by
  cases d <;> try (simp [Rows.uptoBulk]; done)
  rename_i l; cases l <;> simp [Rows.uptoBulk]
theorem bulk_len {H : Type} : ∀ (l : List (DataW H)), l.length ≤ Rows.uptoBulkAll l
  | [] => Nat.le_refl _
  | d :: l => by
    have := bulk_len l
    have := bulk_pos d
    simp only [Rows.uptoBulkAll, List.length_cons]; omega

theorem strs_rel {H : Type} {enc : TypeId × Value → H} {P : Program} {W : World} {held : Bool} {t e : TypeId} {a : Option Addr} {len cap : Nat} {d : DataW H} {ps : List MemPlace} (ht : P.underlying t = some (.slice e)) (he : P.underlying e = some .string) (hc : P.cellsOf e = 1)
    (h : DataW.Trod enc P W 0 (fun _ => true) held t (.slice a len cap) d ps) :
    ∃ l : List Str, RelV (gh0 W) (.list false 1 (ts l)) (.slice a len cap) ∧ l.length < Rows.uptoBulk d ∧ ∀ s ∈ l, s.length < Rows.uptoBulk d := by
  obtain ⟨fuel, hf⟩ := h
  rcases open_strs ht he hc hf with ⟨hcs, hx⟩ | ⟨ad, len', cap', m, Sx, hcs, _, hl, hm, hmm, hx, hcell⟩
  · simp [Value.cells] at hcs
    obtain ⟨rfl, rfl, rfl⟩ := hcs
    refine ⟨[], .empty, ?_, by simp⟩
    exact bulk_pos d
  · simp [Value.cells] at hcs
    obtain ⟨rfl, rfl, rfl⟩ := hcs
    have hlm : len ≤ m := by rw [hmm]; simp; exact hl
    have hd : d = .slice ((List.range len).map fun i => .lit (.string (Sx i).data.toList)) ((List.range (m - len)).map fun j => .lit (.string (Sx (len + j)).data.toList)) := by
      simpa using congrArg Prod.fst hx
    refine ⟨(List.range len).map fun i => bs (Sx i), ?_, ?_, ?_⟩
    · have hts : ts ((List.range len).map fun i => bs (Sx i)) = (List.range len).map fun i => [DV.sc (.string (Sx i))] := by
        simp only [ts, List.map_map]; rfl
      have hfl : ((List.range len).map fun i => [DV.sc (.string (Sx i))]).flatten = (List.range len).map fun i => DV.sc (.string (Sx i)) := by
        generalize List.range len = r
        induction r with
        | nil => rfl
        | cons x r ih => simp only [List.map_cons, List.flatten_cons, ih]; rfl
      have hlen : ((List.range len).map fun i => [DV.sc (.string (Sx i))]).length = len := by simp
      obtain ⟨b, off, g⟩ := ad
      show RelV (gh0 W) (.list false 1 (ts _)) _
      rw [hts]
      by_cases hz : len = 0
      · subst hz
        exact .empty
      · have hgn : g = none := by
          have := (hcell 0 (by omega)).1
          cases g with
          | none => rfl
          | some _ =>
            simp [World.cell?, Addr.add] at this
            split at this <;> simp at this
        subst hgn
        have hg : ∀ i, i < m → W.cell? ⟨b, off + i, none⟩ = some (.string (Sx i)) := fun i hi => by
          have := (hcell i hi).1
          by_cases hi0 : i = 0
          · subst hi0; simpa [Addr.add] using this
          · simpa [Addr.add, hi0] using this
        have := RelV.list (g := gh0 W) (own := false) (es := 1) (l := (List.range len).map fun i => [DV.sc (.string (Sx i))]) (cap := cap) (b := b) (off := off) (vs := (List.range len).map fun i => Value.string (Sx i)) (by simpa using hl) (by simp)
          (by rw [hfl]; simp) (by
            rw [hfl]
            intro k x v hx hv
            rw [List.getElem?_map] at hx hv
            cases hr : (List.range len)[k]? with
            | none => rw [hr] at hx; cases hx
            | some i => rw [hr] at hx hv; cases hx; cases hv; exact .sc _) (by
            intro k v hv
            rw [List.getElem?_map] at hv
            cases hr : (List.range len)[k]? with
            | none => rw [hr] at hv; cases hv
            | some i =>
              rw [hr] at hv; cases hv
              obtain ⟨hk, rfl⟩ := List.getElem?_eq_some_iff.1 hr
              simp only [List.getElem_range]
              simp only [List.length_range] at hk
              exact gh0_pc (hg k (by omega)) rfl)
        rwa [hlen] at this
    · rw [hd]
      have := bulk_len ((List.range len).map fun i => (DataW.lit (.string (Sx i).data.toList) : DataW H))
      simp only [Rows.uptoBulk, List.length_map, List.length_range] at this ⊢
      omega
    · intro s hs
      obtain ⟨i, hi, rfl⟩ := List.mem_map.1 hs
      have := bulk_get (H := H) (List.mem_map_of_mem (f := fun i => (DataW.lit (.string (Sx i).data.toList) : DataW H)) hi)
      rw [hd]
      simp only [Rows.uptoBulk] at this ⊢
      show (Sx i).data.toList.length < _
      omega
end Go.DS

/-
  Arguments of any plain type, opened: texts, numbers, truth values, slices and structs of them.
-/
namespace Go.DS
open Go Go.Proofs Go.ChangeShapes Go.WideShapes Go.RowKit Go.Proofs.Ytdiaecagkgbjcaa Go.Deep
set_option linter.unusedVariables false
set_option linter.unusedSimpArgs false

/-- Fields, one behind the other. -/
def tilesB (P : Program) : List Field → Nat → Nat → Bool
  | [], k, m => k == m
  | f :: fs, k, m => f.offset == k && tilesB P fs (k + P.cellsOf f.type) m
/-- Types of plain data. -/
def plainTy (P : Program) : Nat → TypeId → Bool
  | 0, _ => false
  | n + 1, t => match P.underlying t with
    | some .bool => P.cellsOf t == 1
    | some (.int _) => P.cellsOf t == 1
    | some .string => P.cellsOf t == 1
    | some (.slice e) => P.cellsOf t == 1 && decide (0 < P.cellsOf e) && plainTy P n e
    | some (.struct fs) => tilesB P fs.toList 0 (P.cellsOf t) && fs.toList.all fun f => plainTy P n f.type
    | _ => false
/-- What clean cells of plain data look like. -/
def Sh (P : Program) (B : Nat) : Nat → TypeId → List DV → Prop
  | 0, _, _ => False
  | n + 1, t, ds => match P.underlying t with
    | some .bool => ∃ b, ds = [.sc (.bool b)]
    | some (.int k) => ∃ m, ds = [.sc (.int k m)] ∧ k.min ≤ m ∧ m ≤ k.max
    | some .string => ∃ s, ds = [.sc (.string (mkB s))] ∧ s.length ≤ B
    | some (.slice e) => ∃ l, ds = [.list false (P.cellsOf e) l] ∧ l.length ≤ B ∧ ∀ r ∈ l, Sh P B n e r
    | some (.struct fs) => ds.length = P.cellsOf t ∧ ∀ (i : Nat) (f : Field), fs[i]? = some f → Sh P B n f.type ((ds.drop f.offset).take (P.cellsOf f.type))
    | _ => False
theorem sh_int {P : Program} {B n : Nat} {t : TypeId} {k : IntKind} {ds : List DV} (ht : P.underlying t = some (.int k)) (h : Sh P B (n + 1) t ds) : ∃ m, ds = [.sc (.int k m)] ∧ k.min ≤ m ∧ m ≤ k.max := by
  unfold Sh at h; rw [ht] at h; exact h
theorem sh_bool {P : Program} {B n : Nat} {t : TypeId} {ds : List DV} (ht : P.underlying t = some .bool) (h : Sh P B (n + 1) t ds) : ∃ b, ds = [.sc (.bool b)] := by
  unfold Sh at h; rw [ht] at h; exact h
theorem sh_str {P : Program} {B n : Nat} {t : TypeId} {ds : List DV} (ht : P.underlying t = some .string) (h : Sh P B (n + 1) t ds) : ∃ s, ds = [.sc (.string (mkB s))] ∧ s.length ≤ B := by
  unfold Sh at h; rw [ht] at h; exact h
theorem sh_slice {P : Program} {B n : Nat} {t e : TypeId} {ds : List DV} (ht : P.underlying t = some (.slice e)) (h : Sh P B (n + 1) t ds) : ∃ l, ds = [.list false (P.cellsOf e) l] ∧ l.length ≤ B ∧ ∀ r ∈ l, Sh P B n e r := by
  unfold Sh at h; rw [ht] at h; exact h
theorem sh_struct {P : Program} {B n : Nat} {t : TypeId} {fs : Array Field} {ds : List DV} (ht : P.underlying t = some (.struct fs)) (h : Sh P B (n + 1) t ds) :
    ds.length = P.cellsOf t ∧ ∀ (i : Nat) (f : Field), fs[i]? = some f → Sh P B n f.type ((ds.drop f.offset).take (P.cellsOf f.type)) := by
  unfold Sh at h; rw [ht] at h; exact h

theorem RelL.cells_one {g : Gh} {ds : List DV} {vs : List Value} (hr : RelL g ds vs) (hc : ds.all DV.cell = true) : ∀ u ∈ vs, u.oneCell' = true := relL_one hr hc

/-- Rows, one behind the other in memory. -/
theorem rows_list {g : Gh} {b off es : Nat} {Q : List DV → Prop} : ∀ (len : Nat), (∀ i, i < len → ∃ ds cs, RelL g ds cs ∧ ds.length = es ∧ (∀ k v, cs[k]? = some v → g.pc b (off + i * es + k) = some v) ∧ Q ds) →
    ∃ (l : List (List DV)) (vs : List Value), l.length = len ∧ (∀ r ∈ l, r.length = es ∧ Q r) ∧ RelL g l.flatten vs ∧ (∀ k v, vs[k]? = some v → g.pc b (off + k) = some v)
  | 0, _ => ⟨[], [], rfl, by simp, RelL.nil g, by simp⟩
  | len + 1, H => by
    obtain ⟨l, vs, h1, h2, h3, h4⟩ := rows_list len fun i hi => H i (by omega)
    obtain ⟨ds, cs, k1, k2, k3, k4⟩ := H len (by omega)
    have hfl : ∀ (l : List (List DV)), (∀ r ∈ l, r.length = es ∧ Q r) → l.flatten.length = l.length * es := by
      intro l
      induction l with
      | nil => intro _; simp
      | cons r l ih =>
        intro h
        rw [List.flatten_cons, List.length_append, (h r List.mem_cons_self).1, ih fun x hx => h x (List.mem_cons_of_mem _ hx), List.length_cons, Nat.add_mul]
        omega
    have hlen : vs.length = len * es := by rw [← h3.len, hfl l h2, h1]
    refine ⟨l ++ [ds], vs ++ cs, by simp [h1], ?_, ?_, ?_⟩
    · intro r hr
      rcases List.mem_append.1 hr with hr | hr
      · exact h2 r hr
      · rw [List.mem_singleton.1 hr]; exact ⟨k2, k4⟩
    · rw [List.flatten_append, List.flatten_cons, List.flatten_nil, List.append_nil]
      exact h3.append k1
    · intro k v hv
      by_cases hk : k < vs.length
      · rw [List.getElem?_append_left hk] at hv; exact h4 k v hv
      · rw [List.getElem?_append_right (by omega)] at hv
        have := k3 _ v hv
        rw [← this]
        congr 1
        omega

theorem tiles_rel {H : Type} {enc : TypeId × Value → H} {P : Program} {W : World} {held : Bool} {g : Gh} {B n m : Nat} {cs : List Value} {xs : List (DataW H × List MemPlace)}
    (ih : ∀ t cs d ps, plainTy P n t = true → DataW.trod enc P W 0 (fun _ => true) held m t cs = some (d, ps) → Rows.uptoBulk d ≤ B + 1 → ∃ ds, RelL g ds cs ∧ ds.all DV.cell = true ∧ Sh P B n t ds ∧ cs.length = P.cellsOf t)
    (hB : ∀ x ∈ xs, Rows.uptoBulk x.1 ≤ B + 1) :
    ∀ (fs : List Field) (i0 k tot : Nat), tilesB P fs k tot = true → (fs.all fun f => plainTy P n f.type) = true → cs.length = tot →
      (∀ (i : Nat) (f : Field), fs[i]? = some f → ∃ x, xs[i0 + i]? = some x ∧ DataW.trod enc P W 0 (fun _ => true) held m f.type ((cs.drop f.offset).take (P.cellsOf f.type)) = some x) →
      k ≤ tot ∧ ∃ ds, RelL g ds (cs.drop k) ∧ ds.all DV.cell = true ∧ (∀ (i : Nat) (f : Field), fs[i]? = some f → k ≤ f.offset ∧ Sh P B n f.type ((ds.drop (f.offset - k)).take (P.cellsOf f.type)))
  | [], i0, k, tot, ht, _, hl, _ => by
    simp only [tilesB, beq_iff_eq] at ht
    subst ht
    refine ⟨Nat.le_refl _, [], ?_, rfl, by simp⟩
    rw [List.drop_eq_nil_of_le (by omega)]
    exact RelL.nil g
  | f :: fs, i0, k, tot, ht, hp, hl, hx => by
    simp only [tilesB, Bool.and_eq_true, beq_iff_eq] at ht
    simp only [List.all_cons, Bool.and_eq_true] at hp
    obtain ⟨hk, ds2, r2, c2, s2⟩ := tiles_rel ih hB fs (i0 + 1) (k + P.cellsOf f.type) tot ht.2 hp.2 hl (fun i f' hf => by
      have := hx (i + 1) f' (by simpa using hf)
      rwa [show i0 + (i + 1) = i0 + 1 + i by omega] at this)
    obtain ⟨x, hx1, hx2⟩ := hx 0 f rfl
    obtain ⟨ds1, r1, c1, s1, l1⟩ := ih f.type _ x.1 x.2 hp.1 hx2 (hB x (List.mem_of_getElem? hx1))
    rw [ht.1] at r1 l1
    have hsp : cs.drop k = (cs.drop k).take (P.cellsOf f.type) ++ cs.drop (k + P.cellsOf f.type) := by
      have e := (List.take_append_drop (P.cellsOf f.type) (cs.drop k)).symm
      rw [List.drop_drop] at e
      exact e
    have hl1 : ds1.length = P.cellsOf f.type := by rw [r1.len, l1]
    refine ⟨by omega, ds1 ++ ds2, ?_, by rw [List.all_append, c1, c2]; rfl, ?_⟩
    · rw [hsp]; exact r1.append r2
    · intro i f' hf
      cases i with
      | zero =>
        cases hf
        refine ⟨by omega, ?_⟩
        rw [ht.1, Nat.sub_self, List.drop_zero, List.take_append_of_le_length (by omega), List.take_of_length_le (by omega)]
        exact s1
      | succ i =>
        obtain ⟨q1, q2⟩ := s2 i f' (by simpa using hf)
        refine ⟨by omega, ?_⟩
        rw [List.drop_append, List.drop_eq_nil_of_le (by omega), List.nil_append, hl1, show f'.offset - k - P.cellsOf f.type = f'.offset - (k + P.cellsOf f.type) by omega]
        exact q2

/-- Whatever plain data is read in memory has a clean form. -/
theorem any_rel {H : Type} {enc : TypeId × Value → H} {P : Program} {W : World} {held : Bool} {B : Nat} : ∀ (n m : Nat) (t : TypeId) (cs : List Value) (d : DataW H) (ps : List MemPlace), plainTy P n t = true →
    DataW.trod enc P W 0 (fun _ => true) held m t cs = some (d, ps) → Rows.uptoBulk d ≤ B + 1 → ∃ ds, RelL (gh0 W) ds cs ∧ ds.all DV.cell = true ∧ Sh P B n t ds ∧ cs.length = P.cellsOf t
  | 0, m, t, cs, d, ps, hp, _, _ => by simp [plainTy] at hp
  | n + 1, m, t, cs, d, ps, hp, h, hb => by
    unfold plainTy at hp
    unfold Sh
    split at hp
    · rename_i ht
      obtain ⟨b, rfl, _⟩ := DataW.trod_bool ht h
      exact ⟨_, .cons (.sc _) (.nil _), rfl, ⟨b, rfl⟩, by simpa using (beq_iff_eq.1 hp).symm⟩
    · rename_i k ht
      obtain ⟨x, rfl, _, hw⟩ := DataW.trod_int ht h
      simp only [Lit.wf, Bool.and_eq_true, decide_eq_true_eq] at hw
      exact ⟨_, .cons (.sc _) (.nil _), rfl, ⟨x, rfl, hw.1, hw.2⟩, by simpa using (beq_iff_eq.1 hp).symm⟩
    · rename_i ht
      obtain ⟨s, rfl, hx, _⟩ := DataW.trod_string ht h
      cases hx
      refine ⟨_, .cons (.sc _) (.nil _), rfl, ⟨bs s, rfl, ?_⟩, by simpa using (beq_iff_eq.1 hp).symm⟩
      simp only [Rows.uptoBulk] at hb
      show s.data.toList.length ≤ B
      omega
    · rename_i e ht
      simp only [Bool.and_eq_true, beq_iff_eq, decide_eq_true_eq] at hp
      obtain ⟨⟨hp1, hp2⟩, hp3⟩ := hp
      rcases DataW.trod_slice ht h with ⟨rfl, hx⟩ | ⟨a, len, cap, elems, rest, q, rfl, rfl, hx, _, hlc, _, hel, hat, _, _⟩
      · exact ⟨_, .cons .empty (.nil _), rfl, ⟨[], rfl, by simp, by simp⟩, by simpa using hp1.symm⟩
      · have hd : d = .slice (elems.map (·.1)) (rest.map (·.1)) := congrArg Prod.fst hx
        subst hd
        simp only [Rows.uptoBulk] at hb
        have hlB : len ≤ B := by
          have := bulk_len (elems.map (·.1))
          rw [List.length_map] at this
          omega
        by_cases hz : len = 0
        · subst hz
          exact ⟨_, .cons .empty (.nil _), rfl, ⟨[], rfl, by simp, by simp⟩, by simpa using hp1.symm⟩
        obtain ⟨b, off, sp⟩ := a
        have hcell : ∀ i, i < len → ∃ ds cs, RelL (gh0 W) ds cs ∧ ds.length = P.cellsOf e ∧ ds.all DV.cell = true ∧ Sh P B n e ds ∧ ∀ k v, cs[k]? = some v → W.cell? ((Addr.mk b off sp).add (i * P.cellsOf e) |>.add k) = some v ∧ v.oneCell' = true := by
          intro i hi
          have h1 := hat i hi
          have h2 : elems[i]? = some (elems[i]'(by omega)) := List.getElem?_eq_getElem (by omega)
          rw [h2, Option.bind_eq_some_iff] at h1
          obtain ⟨cs, c1, c2⟩ := h1
          obtain ⟨_, c3, c4⟩ := World.cells?_some c1
          have hbi : Rows.uptoBulk (elems[i]'(by omega)).1 ≤ B + 1 := by
            have := bulk_get (l := elems.map (·.1)) (d := (elems[i]'(by omega)).1) (List.mem_map_of_mem (List.getElem_mem _))
            omega
          obtain ⟨ds, r1, r2, r3, r4⟩ := any_rel n q e cs _ _ hp3 c2 hbi
          refine ⟨ds, cs, r1, by rw [r1.len, r4], r2, r3, fun k v hv => ?_⟩
          have hk : k < P.cellsOf e := by rw [← c3]; exact (List.getElem?_eq_some_iff.1 hv).1
          exact ⟨(c4 k hk).trans hv, relL_one r1 r2 v (List.mem_of_getElem? hv)⟩
        have hsp : sp = none := by
          obtain ⟨ds, cs, r1, r2, _, _, r5⟩ := hcell 0 (by omega)
          have : cs ≠ [] := fun e0 => by
            have h0 := r1.len
            rw [e0, r2, List.length_nil] at h0
            omega
          obtain ⟨v, hv⟩ : ∃ v, cs[0]? = some v := ⟨cs[0]'(List.length_pos_iff.2 this), List.getElem?_eq_getElem _⟩
          have := (r5 0 v hv).1
          cases sp with
          | none => rfl
          | some _ =>
            simp [World.cell?, Addr.add] at this
            split at this <;> simp at this
        subst hsp
        have hadd : ∀ i k : Nat, ((Addr.mk b off none).add i).add k = ⟨b, off + i + k, none⟩ := fun i k => by
          by_cases hi : i = 0 <;> by_cases hk : k = 0 <;> simp [Addr.add, hi, hk]
        obtain ⟨l, vs, l1, l2, l3, l4⟩ := rows_list (g := gh0 W) (b := b) (off := off) (es := P.cellsOf e) (Q := fun ds => ds.all DV.cell = true ∧ Sh P B n e ds) len fun i hi => by
          obtain ⟨ds, cs, r1, r2, r3, r4, r5⟩ := hcell i hi
          refine ⟨ds, cs, r1, r2, fun k v hv => ?_, r3, r4⟩
          obtain ⟨q1, q2⟩ := r5 k v hv
          rw [hadd] at q1
          exact gh0_pc q1 q2
        refine ⟨[.list false (P.cellsOf e) l], .cons ?_ (.nil _), rfl, ⟨l, rfl, by omega, fun r hr => (l2 r hr).2.2⟩, by simpa using hp1.symm⟩
        rw [← l1]
        exact .list (by omega) (fun r hr => (l2 r hr).1) l3.len l3.at_ l4
    · rename_i fs ht
      simp only [Bool.and_eq_true] at hp
      obtain ⟨xs, q, rfl, hx, hcl, hxl, hf⟩ := DataW.trod_struct ht h
      have hd : d = .agg (xs.map (·.1)) := congrArg Prod.fst hx
      subst hd
      simp only [Rows.uptoBulk] at hb
      obtain ⟨_, ds, r1, r2, r3⟩ := tiles_rel (g := gh0 W) (B := B) (n := n) (m := q) (cs := cs) (xs := xs) (fun t cs d ps => any_rel n q t cs d ps) (fun x hx => by
        have := bulk_get (l := xs.map (·.1)) (d := x.1) (List.mem_map_of_mem hx)
        omega) fs.toList 0 0 (P.cellsOf t) hp.1 hp.2 hcl (fun i f hi => by
          have hi' : fs[i]? = some f := by simpa using hi
          have := hf i f hi'
          have hlt : i < xs.length := by rw [hxl]; exact (Array.getElem?_eq_some_iff.1 hi').1
          rw [Nat.zero_add]
          exact ⟨xs[i], List.getElem?_eq_getElem hlt, this.trans (List.getElem?_eq_getElem hlt)⟩)
      rw [List.drop_zero] at r1
      refine ⟨ds, r1, r2, ⟨by rw [r1.len, hcl], fun i f hi => ?_⟩, hcl⟩
      have := (r3 i f (by simpa using hi)).2
      simpa using this
    · cases hp
end Go.DS

/-
  Arguments of this program's types, opened.
-/
namespace Go.DS
open Go Go.Proofs Go.ChangeShapes Go.WideShapes Go.RowKit Go.Proofs.Ytdiaecagkgbjcaa Go.Deep
set_option linter.unusedVariables false
set_option maxRecDepth 100000
set_option linter.unusedSimpArgs false
theorem sh_at {P : Program} {B n : Nat} {fs : Array Field} {ds : List DV} (hf : ∀ (i : Nat) (f : Field), fs[i]? = some f → Sh P B n f.type ((ds.drop f.offset).take (P.cellsOf f.type))) (i : Nat) (f : Field) (hi : fs[i]? = some f) (hc : P.cellsOf f.type = 1) (d : DV) (hd : ds[f.offset]? = some d) : Sh P B n f.type [d] := by
  have := hf i f hi
  obtain ⟨hl, rfl⟩ := List.getElem?_eq_some_iff.1 hd
  rw [hc, List.drop_eq_getElem_cons hl] at this
  exact this
def In64 (m : Int) : Prop := -9223372036854775808 ≤ m ∧ m ≤ 9223372036854775807
theorem in64 {m : Int} (h : IntKind.min .i64 ≤ m ∧ m ≤ IntKind.max .i64) : In64 m := by
  have e1 : IntKind.min .i64 = -9223372036854775808 := by decide
  have e2 : IntKind.max .i64 = 9223372036854775807 := by decide
  rw [e1, e2] at h
  exact h
/-- An argument of a struct. -/
theorem arg_struct {H : Type} {enc : TypeId × Value → H} {P : Program} {W : World} {held : Bool} {B base n : Nat} {t : TypeId} {fs : Array Field} {v : Value} {d : DataW H} {ps : List MemPlace} (ht : P.underlying t = some (.struct fs)) (hp : plainTy P n t = true)
    (hv : Value.okWide P W .any base t v) (h : DataW.Trod enc P W 0 (fun _ => true) held t v d ps) (hb : Rows.uptoBulk d ≤ B + 1) : ∃ ds, RelV (gh0 W) (.agg ds) v ∧ Sh P B n t ds := by
  obtain ⟨cs, rfl, _⟩ := okWide_struct ht hv
  obtain ⟨m, hm⟩ := h
  obtain ⟨ds, r1, _, r3, _⟩ := any_rel n m t _ d ps hp hm hb
  refine ⟨ds, ?_, r3⟩
  have := RelV.agg r1.len r1.at_
  simpa [Value.cells] using this
/-- An argument of a slice. -/
theorem arg_slice {H : Type} {enc : TypeId × Value → H} {P : Program} {W : World} {held : Bool} {B base n : Nat} {t e : TypeId} {v : Value} {d : DataW H} {ps : List MemPlace} (ht : P.underlying t = some (.slice e)) (hp : plainTy P (n + 1) t = true)
    (hv : Value.okWide P W .any base t v) (h : DataW.Trod enc P W 0 (fun _ => true) held t v d ps) (hb : Rows.uptoBulk d ≤ B + 1) : ∃ l, RelV (gh0 W) (.list false (P.cellsOf e) l) v ∧ l.length ≤ B ∧ ∀ r ∈ l, Sh P B n e r := by
  obtain ⟨a, len, cap, rfl⟩ := okWide_slice ht hv
  obtain ⟨m, hm⟩ := h
  obtain ⟨ds, r1, _, r3, _⟩ := any_rel (n + 1) m t _ d ps hp hm hb
  obtain ⟨l, rfl, h1, h2⟩ := sh_slice ht r3
  refine ⟨l, ?_, h1, h2⟩
  have r1' : RelL (gh0 W) [.list false (P.cellsOf e) l] [.slice a len cap] := by simpa [Value.cells] using r1
  exact r1'.at_ 0 _ _ rfl rfl
theorem rows_map {α : Type} {Q : List DV → Prop} {F : α → List DV} {R : α → Prop} (h : ∀ r, Q r → ∃ x, r = F x ∧ R x) : ∀ l : List (List DV), (∀ r ∈ l, Q r) → ∃ m : List α, l = m.map F ∧ (∀ x ∈ m, R x) ∧ m.length = l.length
  | [], _ => ⟨[], rfl, by simp, rfl⟩
  | r :: l, hl => by
    obtain ⟨m, rfl, h2, h3⟩ := rows_map h l fun x hx => hl x (List.mem_cons_of_mem _ hx)
    obtain ⟨x, rfl, h4⟩ := h r (hl r List.mem_cons_self)
    exact ⟨x :: m, rfl, fun y hy => by rcases List.mem_cons.1 hy with rfl | hy; exact h4; exact h2 y hy, by simp⟩
structure CmdOK (B : Nat) (c : Cmd) : Prop where
  path : c.path.length ≤ B
  value : c.value.length ≤ B
  client : In64 c.client
  seq : In64 c.seq
  op : In64 c.op
  version : In64 c.version
  a : In64 c.a
  b : In64 c.b
theorem cmd_of {B n : Nat} {ds : List DV} (h : Sh Try.prog B (n + 2) 33 ds) : ∃ c : Cmd, ds = cmdL c ∧ CmdOK B c := by
  obtain ⟨hl, hf⟩ := sh_struct Try.underlying33 h
  have hl' : ds.length = 8 := hl.trans (by kernel_rfl)
  match ds, hl' with
  | [d0, d1, d2, d3, d4, d5, d6, d7], _ =>
    obtain ⟨x0, e0, r0⟩ := sh_int Try.underlying3 (sh_at hf 0 _ rfl (by kernel_rfl) d0 rfl)
    obtain ⟨x1, e1, r1⟩ := sh_int Try.underlying3 (sh_at hf 1 _ rfl (by kernel_rfl) d1 rfl)
    obtain ⟨x2, e2, r2⟩ := sh_int Try.underlying31 (sh_at hf 2 _ rfl (by kernel_rfl) d2 rfl)
    obtain ⟨x3, e3, r3⟩ := sh_str Try.underlying9 (sh_at hf 3 _ rfl (by kernel_rfl) d3 rfl)
    obtain ⟨x4, e4, r4⟩ := sh_str Try.underlying9 (sh_at hf 4 _ rfl (by kernel_rfl) d4 rfl)
    obtain ⟨x5, e5, r5⟩ := sh_int Try.underlying3 (sh_at hf 5 _ rfl (by kernel_rfl) d5 rfl)
    obtain ⟨x6, e6, r6⟩ := sh_int Try.underlying3 (sh_at hf 6 _ rfl (by kernel_rfl) d6 rfl)
    obtain ⟨x7, e7, r7⟩ := sh_int Try.underlying3 (sh_at hf 7 _ rfl (by kernel_rfl) d7 rfl)
    cases e0; cases e1; cases e2; cases e3; cases e4; cases e5; cases e6; cases e7
    exact ⟨⟨x0, x1, x2, x3, x4, x5, x6, x7⟩, rfl, r3, r4, in64 r0, in64 r1, in64 r2, in64 r5, in64 r6, in64 r7⟩
theorem arg_cmd {H : Type} {enc : TypeId × Value → H} {W : World} {held : Bool} {B base : Nat} {v : Value} {d : DataW H} {ps : List MemPlace} (hv : Value.okWide Try.prog W .any base 33 v)
    (h : DataW.Trod enc Try.prog W 0 (fun _ => true) held 33 v d ps) (hb : Rows.uptoBulk d ≤ B + 1) : ∃ c : Cmd, RelV (gh0 W) (cmdD c) v ∧ CmdOK B c := by
  obtain ⟨ds, r1, r2⟩ := arg_struct (n := 2) Try.underlying33 (by kernel_rfl) hv h hb
  obtain ⟨c, rfl, hc⟩ := cmd_of r2
  exact ⟨c, r1, hc⟩
theorem arg_cmds {H : Type} {enc : TypeId × Value → H} {W : World} {held : Bool} {B base : Nat} {v : Value} {d : DataW H} {ps : List MemPlace} (hv : Value.okWide Try.prog W .any base 83 v)
    (h : DataW.Trod enc Try.prog W 0 (fun _ => true) held 83 v d ps) (hb : Rows.uptoBulk d ≤ B + 1) : ∃ l : List Cmd, RelV (gh0 W) (.list false 8 (cms l)) v ∧ l.length ≤ B ∧ ∀ c ∈ l, CmdOK B c := by
  obtain ⟨l, r1, r2, r3⟩ := arg_slice (n := 2) Try.underlying83 (by kernel_rfl) hv h hb
  obtain ⟨m, rfl, h1, h2⟩ := rows_map (fun r hr => cmd_of (n := 0) hr) l r3
  refine ⟨m, ?_, by omega, h1⟩
  have e : Try.prog.cellsOf 33 = 8 := by kernel_rfl
  rwa [e] at r1
end Go.DS

/-
  Arguments of this program's types: instances, attributes.
-/
namespace Go.DS
open Go Go.Proofs Go.ChangeShapes Go.WideShapes Go.RowKit Go.Proofs.Ytdiaecagkgbjcaa Go.Deep
set_option linter.unusedVariables false
set_option maxRecDepth 100000
set_option linter.unusedSimpArgs false
theorem sh_sub {P : Program} {B n : Nat} {fs : Array Field} {ds : List DV} (hf : ∀ (i : Nat) (f : Field), fs[i]? = some f → Sh P B n f.type ((ds.drop f.offset).take (P.cellsOf f.type))) (i : Nat) (f : Field) (hi : fs[i]? = some f) (k : Nat) (hc : P.cellsOf f.type = k) (l : List DV) (hl : (ds.drop f.offset).take k = l) : Sh P B n f.type l := by
  rw [← hl, ← hc]; exact hf i f hi
structure IdOK (x : Id) : Prop where
  e : In64 x.e
  n : In64 x.n
  k : In64 x.k
theorem id_of {B n : Nat} {ds : List DV} (h : Sh Try.prog B (n + 2) 27 ds) : ∃ x : Id, ds = idL x ∧ IdOK x := by
  obtain ⟨hl, hf⟩ := sh_struct Try.underlying27 h
  have hl' : ds.length = 3 := hl.trans (by kernel_rfl)
  match ds, hl' with
  | [d0, d1, d2], _ =>
    obtain ⟨x0, e0, r0⟩ := sh_int Try.underlying3 (sh_at hf 0 _ rfl (by kernel_rfl) d0 rfl)
    obtain ⟨x1, e1, r1⟩ := sh_int Try.underlying3 (sh_at hf 1 _ rfl (by kernel_rfl) d1 rfl)
    obtain ⟨x2, e2, r2⟩ := sh_int Try.underlying3 (sh_at hf 2 _ rfl (by kernel_rfl) d2 rfl)
    cases e0; cases e1; cases e2
    exact ⟨⟨x0, x1, x2⟩, rfl, in64 r0, in64 r1, in64 r2⟩
theorem ids_of {B n : Nat} {ds : List DV} (h : Sh Try.prog B (n + 3) 34 ds) : ∃ l : List Id, ds = [.list false 3 (idr l)] ∧ l.length ≤ B ∧ ∀ x ∈ l, IdOK x := by
  obtain ⟨l, rfl, h1, h2⟩ := sh_slice Try.underlying34 h
  obtain ⟨m, rfl, h3, h4⟩ := rows_map (fun r hr => id_of hr) l h2
  have e : Try.prog.cellsOf 27 = 3 := by kernel_rfl
  exact ⟨m, by rw [e]; rfl, by simpa using h1, h3⟩
structure AttOK (B : Nat) (a : Att) : Prop where
  seq : In64 a.seq
  len : a.deps.length ≤ B
  deps : ∀ x ∈ a.deps, IdOK x
theorem att_of {B n : Nat} {ds : List DV} (h : Sh Try.prog B (n + 4) 36 ds) : ∃ a : Att, ds = attL a ∧ AttOK B a := by
  obtain ⟨hl, hf⟩ := sh_struct Try.underlying36 h
  have hl' : ds.length = 2 := hl.trans (by kernel_rfl)
  match ds, hl' with
  | [d0, d1], _ =>
    obtain ⟨x0, e0, r0⟩ := sh_int Try.underlying3 (sh_at hf 0 _ rfl (by kernel_rfl) d0 rfl)
    obtain ⟨x1, e1, r1, r1'⟩ := ids_of (n := n) (sh_at hf 1 _ rfl (by kernel_rfl) d1 rfl)
    cases e0; cases e1
    exact ⟨⟨x0, x1⟩, rfl, in64 r0, r1, r1'⟩
structure KnoOK (B : Nat) (x : Kno) : Prop where
  id : IdOK x.id
  cmd : CmdOK B x.cmd
  att : AttOK B x.att
theorem kno_of {B n : Nat} {ds : List DV} (h : Sh Try.prog B (n + 5) 80 ds) : ∃ x : Kno, ds = knoL x ∧ KnoOK B x := by
  obtain ⟨hl, hf⟩ := sh_struct Try.underlying80 h
  have hl' : ds.length = 13 := hl.trans (by kernel_rfl)
  match ds, hl' with
  | [d0, d1, d2, d3, d4, d5, d6, d7, d8, d9, d10, d11, d12], _ =>
    obtain ⟨x0, e0, r0⟩ := id_of (n := n + 2) (sh_sub hf 0 _ rfl 3 (by kernel_rfl) [d0, d1, d2] rfl)
    obtain ⟨x1, e1, r1⟩ := cmd_of (n := n + 2) (sh_sub hf 1 _ rfl 8 (by kernel_rfl) [d3, d4, d5, d6, d7, d8, d9, d10] rfl)
    obtain ⟨x2, e2, r2⟩ := att_of (n := n) (sh_sub hf 2 _ rfl 2 (by kernel_rfl) [d11, d12] rfl)
    cases e0; cases e1; cases e2
    exact ⟨⟨x0, x1, x2⟩, rfl, r0, r1, r2⟩
section
variable {H : Type} {enc : TypeId × Value → H} {W : World} {held : Bool} {B base : Nat} {v : Value} {d : DataW H} {ps : List MemPlace}
theorem arg_id (hv : Value.okWide Try.prog W .any base 27 v) (h : DataW.Trod enc Try.prog W 0 (fun _ => true) held 27 v d ps) (hb : Rows.uptoBulk d ≤ B + 1) : ∃ x : Id, RelV (gh0 W) (.agg [vi x.e, vi x.n, vi x.k]) v ∧ IdOK x := by
  obtain ⟨ds, r1, r2⟩ := arg_struct (n := 2) Try.underlying27 (by kernel_rfl) hv h hb
  obtain ⟨c, rfl, hc⟩ := id_of (n := 0) r2
  exact ⟨c, r1, hc⟩
theorem arg_att (hv : Value.okWide Try.prog W .any base 36 v) (h : DataW.Trod enc Try.prog W 0 (fun _ => true) held 36 v d ps) (hb : Rows.uptoBulk d ≤ B + 1) : ∃ x : Att, RelV (gh0 W) (attD x) v ∧ AttOK B x := by
  obtain ⟨ds, r1, r2⟩ := arg_struct (n := 4) Try.underlying36 (by kernel_rfl) hv h hb
  obtain ⟨c, rfl, hc⟩ := att_of (n := 0) r2
  exact ⟨c, r1, hc⟩
theorem arg_kno (hv : Value.okWide Try.prog W .any base 80 v) (h : DataW.Trod enc Try.prog W 0 (fun _ => true) held 80 v d ps) (hb : Rows.uptoBulk d ≤ B + 1) : ∃ x : Kno, RelV (gh0 W) (knoD x) v ∧ KnoOK B x := by
  obtain ⟨ds, r1, r2⟩ := arg_struct (n := 5) Try.underlying80 (by kernel_rfl) hv h hb
  obtain ⟨c, rfl, hc⟩ := kno_of (n := 0) r2
  exact ⟨c, r1, hc⟩
theorem arg_knos (hv : Value.okWide Try.prog W .any base 78 v) (h : DataW.Trod enc Try.prog W 0 (fun _ => true) held 78 v d ps) (hb : Rows.uptoBulk d ≤ B + 1) : ∃ l : List Kno, RelV (gh0 W) (.list false 13 (kns l)) v ∧ l.length ≤ B ∧ ∀ x ∈ l, KnoOK B x := by
  obtain ⟨l, r1, r2, r3⟩ := arg_slice (n := 5) Try.underlying78 (by kernel_rfl) hv h hb
  obtain ⟨m, rfl, h1, h2⟩ := rows_map (fun r hr => kno_of (n := 0) hr) l r3
  refine ⟨m, ?_, by omega, h1⟩
  have e : Try.prog.cellsOf 80 = 13 := by kernel_rfl
  rwa [e] at r1
end
end Go.DS

/-
  Walks: the laws of attr: what they share.
-/
namespace Go.DS
open Go Go.Proofs
set_option maxRecDepth 100000
set_option linter.unusedVariables false
set_option linter.unusedSimpArgs false
def cd30 : Cd := .seq (R [cb 0 (.mv (.c (kb false)))] [1, 2, 3, 4, 5, 6]) (.seq (R [c0 7 (.bld [ki .i64 0, ki .i64 0, ki .i64 0] [(1, 1, (.c (ki .i64 1)))]), c0 8 (.bld [ki .i64 0, ki .i64 0, ki .i64 0, ks [], ks [], ki .i64 0, ki .i64 0, ki .i64 0] [(0, 1, (.c (ki .i64 1))), (2, 1, (.c (ki .i64 3))), (3, 1, (.c (ks [47, 97])))]), c0 9 (.bld [ki .i64 0, kz 3] [(0, 1, (.c (ki .i64 4)))]), c0 10 (.bld [ki .i64 0, ki .i64 0, ki .i64 0, ki .i64 0, ki .i64 0, ki .i64 0, ks [], ks [], ki .i64 0, ki .i64 0, ki .i64 0, ki .i64 0, kz 3] [(0, 3, (.s 7)), (3, 8, (.s 8)), (11, 2, (.s 9))]), c0 1 (.new false (.c (.agg [ki .i64 0, ki .i64 0, ki .i64 0, ki .i64 0, ki .i64 0, ki .i64 0, ks [], ks [], ki .i64 0, ki .i64 0, ki .i64 0, ki .i64 0, kn 3]))), cn (.st 13 (.s 1) (.s 10))] [1, 2, 3, 4, 5, 6]) (.seq (R [c0 11 (.bld [ki .i64 0, ki .i64 0, ki .i64 0] [(1, 1, (.c (ki .i64 2)))]), c0 2 (.new false (.c (.agg [ki .i64 0, ki .i64 0, ki .i64 0]))), cn (.st 3 (.s 2) (.s 11))] [1, 2, 3, 4, 5, 6]) (.seq (R [c0 12 (.bld [ki .i64 0, ki .i64 0, ki .i64 0, ks [], ks [], ki .i64 0, ki .i64 0, ki .i64 0] [(0, 1, (.c (ki .i64 2))), (2, 1, (.c (ki .i64 4))), (3, 1, (.c (ks [47, 97])))]), c0 3 (.new false (.c (.agg [ki .i64 0, ki .i64 0, ki .i64 0, ks [], ks [], ki .i64 0, ki .i64 0, ki .i64 0]))), cn (.st 8 (.s 3) (.s 12))] [1, 2, 3, 4, 5, 6]) (.seq (R [c0 13 (.ld true 13 (.s 1)), c0 14 (.bsl 13 [(.s 13)]), c0 15 (.ld true 3 (.s 2)), c0 16 (.ld true 8 (.s 3)), c0 17 (.call none (.c (kf 38)) [(.s 14), (.s 15), (.s 16)]), c0 4 (.new false (.c (.agg [ki .i64 0, kn 3]))), cn (.st 2 (.s 4) (.s 17))] [1, 2, 3, 4, 5, 6]) (.seq (R [c0 18 (.ld true 2 (.s 4)), c0 19 (.bld [ki .i64 0, ki .i64 0, ki .i64 0] [(1, 1, (.c (ki .i64 3)))]), c0 20 (.bsl 3 [(.s 19)]), c0 21 (.bld [ki .i64 0, kz 3] [(0, 1, (.c (ki .i64 2))), (1, 1, (.s 20))]), c0 22 (.call none (.c (kf 31)) [(.s 18), (.s 21)]), c0 5 (.new false (.c (.agg [ki .i64 0, kn 3]))), cn (.st 2 (.s 5) (.s 22))] [1, 2, 3, 4, 5, 6]) (.seq (R [c0 23 (.ld true 3 (.s 2)), c0 24 (.ld true 8 (.s 3)), c0 25 (.ld true 2 (.s 4)), c0 26 (.bld [ki .i64 0, ki .i64 0, ki .i64 0, ki .i64 0, ki .i64 0, ki .i64 0, ks [], ks [], ki .i64 0, ki .i64 0, ki .i64 0, ki .i64 0, kz 3] [(0, 3, (.s 23)), (3, 8, (.s 24)), (11, 2, (.s 25))]), c0 6 (.new false (.c (.agg [ki .i64 0, ki .i64 0, ki .i64 0, ki .i64 0, ki .i64 0, ki .i64 0, ks [], ks [], ki .i64 0, ki .i64 0, ki .i64 0, ki .i64 0, kn 3]))), cn (.st 13 (.s 6) (.s 26))] [1, 2, 3, 4, 5, 6]) (.seq (RD (cd (some 27) false none (.mov 0 (.s 4)) false false [4] :: cd (some 28) false none (.ld false 1 (.s 27)) false false [27] :: cd (some 29) true none (.bin .eql .any (.s 28) (.c (ki .i64 5))) false false [28] :: cd (some 30) true none (.mv (.s 29)) false false [29] :: cd (some 31) false (some (30, true)) (.mov 1 (.s 4)) false false [4] :: cd (some 32) false (some (30, true)) (.ld false 1 (.s 31)) false false [31] :: cd (some 33) false (some (30, true)) (.len 1 (.s 32)) false false [32] :: cd (some 34) true (some (30, true)) (.bin .eql .any (.s 33) (.c (ki .i64 1))) false false [33] :: cd (some 35) true none (.pick (.s 30) (.s 34) (.c (kb false))) false false [30, 34] :: cd (some 36) true none (.mv (.s 35)) false false [35] :: cd (some 37) false (some (36, true)) (.mov 1 (.s 4)) false false [4] :: cd (some 38) false (some (36, true)) (.ld false 1 (.s 37)) false false [37] :: cd (some 39) false (some (36, true)) (.ixp 3 (.s 38) (.c (ki .i64 0))) false false [38] :: cd (some 40) false (some (36, true)) (.ld true 3 (.s 39)) false false [39] :: cd (some 41) false (some (36, true)) (.mov 0 (.s 1)) false false [1] :: cd (some 42) false (some (36, true)) (.ld true 3 (.s 41)) false false [41] :: cd (some 43) true (some (36, true)) (.bin .eql (.flat [0, 0, 0]) (.s 40) (.s 42)) false false [40, 42] :: cd (some 44) true none (.pick (.s 36) (.s 43) (.c (kb false))) false false [36, 43] :: cd (some 45) true none (.mv (.s 44)) false false [44] :: cd (some 46) false (some (45, true)) (.mov 0 (.s 5)) false false [5] :: cd (some 47) false (some (45, true)) (.ld false 1 (.s 46)) false false [46] :: cd (some 48) true (some (45, true)) (.bin .eql .any (.s 47) (.c (ki .i64 5))) false false [47] :: cd (some 49) true none (.pick (.s 45) (.s 48) (.c (kb false))) false false [45, 48] :: cd (some 50) true none (.mv (.s 49)) false false [49] :: cd (some 51) false (some (50, true)) (.mov 1 (.s 5)) false false [5] :: cd (some 52) false (some (50, true)) (.ld false 1 (.s 51)) false false [51] :: cd (some 53) false (some (50, true)) (.len 1 (.s 52)) false false [52] :: cd (some 54) true (some (50, true)) (.bin .eql .any (.s 53) (.c (ki .i64 2))) false false [53] :: cd (some 55) true none (.pick (.s 50) (.s 54) (.c (kb false))) false false [50, 54] :: cd (some 56) true none (.mv (.s 55)) false false [55] :: cd (some 57) false (some (56, true)) (.ld true 3 (.s 2)) false false [2] :: cd (some 58) false (some (56, true)) (.ld true 2 (.s 5)) false false [5] :: cd (some 59) true (some (56, true)) (.call none (.c (kf 41)) [(.s 57), (.s 58)]) false false [57, 58] :: cd (some 60) true none (.pick (.s 56) (.s 59) (.c (kb false))) false false [56, 59] :: cd (some 61) true none (.mv (.s 60)) false false [60] :: cd (some 62) false (some (61, true)) (.ld true 2 (.s 4)) false false [4] :: cd (some 63) false (some (61, true)) (.ld true 2 (.s 4)) false false [4] :: cd (some 64) true (some (61, true)) (.call none (.c (kf 33)) [(.s 62), (.s 63)]) false false [62, 63] :: cd (some 65) true none (.pick (.s 61) (.s 64) (.c (kb false))) false false [61, 64] :: cd (some 66) true none (.mv (.s 65)) false false [65] :: cd (some 67) false (some (66, true)) (.ld true 13 (.s 1)) false false [1] :: cd (some 68) false (some (66, true)) (.ld true 13 (.s 6)) false false [6] :: cd (some 69) true (some (66, true)) (.call none (.c (kf 40)) [(.s 67), (.s 68)]) false false [67, 68] :: cd (some 70) true none (.pick (.s 66) (.s 69) (.c (kb false))) false false [66, 69] :: cd (some 71) true none (.mv (.s 70)) false false [70] :: cd (some 72) false (some (71, true)) (.ld true 2 (.s 4)) false false [4] :: cd (some 73) false (some (71, true)) (.ld true 2 (.s 4)) false false [4] :: cd (some 74) false (some (71, true)) (.bsl 2 [(.s 72), (.s 73)]) false false [72, 73] :: cd (some 75) true (some (71, true)) (.call none (.c (kf 60)) [(.s 74)]) false false [74] :: cd (some 76) true none (.pick (.s 71) (.s 75) (.c (kb false))) false false [71, 75] :: cd (some 77) true none (.mv (.s 76)) false false [76] :: cd (some 78) false (some (77, true)) (.ld true 2 (.s 4)) false false [4] :: cd (some 79) false (some (77, true)) (.ld true 2 (.s 5)) false false [5] :: cd (some 80) false (some (77, true)) (.bsl 2 [(.s 78), (.s 79)]) false false [78, 79] :: cd (some 81) false (some (77, true)) (.call none (.c (kf 32)) [(.s 80)]) false false [80] :: cd (some 82) false (some (77, true)) (.fld 0 false 1 (.s 81)) false false [81] :: cd (some 83) true (some (77, true)) (.bin .eql .any (.s 82) (.c (ki .i64 5))) false false [82] :: cd (some 84) true none (.pick (.s 77) (.s 83) (.c (kb false))) false false [77, 83] :: cd (some 0) true none (.mv (.s 84)) false false [84] :: []) [0, 1, 2, 3, 4, 5, 6] []) (.ret))))))))
theorem fun30 : Fun Try.prog cfg 30 85 cd30 [.s 0] := ⟨rfl, Try.f30, _, Try.func30, rfl, rfl, by kernel_rfl, by kernel_rfl⟩
@[go_sem] theorem ok30 : calleeOK Try.prog 30 = true := by kernel_rfl
@[go_sem] theorem ex30 : (cfg.ext 30).isSome = false := rfl
def cd36 : Cd := .seq (R [cb 2 (.tk (.c (kb false)))] [0]) (.seq (.seq (R [c0 3 (.tk (.c (ki .i64 0)))] [0, 3]) (.block 0 (LP [0, 3] (.seq (.seq (R [c0 4 (.mv (.s 3)), c0 5 (.mv (.s 0)), c0 6 (.len 1 (.s 5)), cb 7 (.bin .lss .any (.s 4) (.s 6)), cb 8 (.mv (.s 7)), cg 9 8 true (.mv (.s 3)), ch 10 8 true (.bin .leq .any (.s 9) (.c (ki .i64 40))), cb 11 (.pick (.s 8) (.s 10) (.c (kb false)))] [0, 3, 11]) (.ite (.s 11) (.skip) (.exit 0))) (.seq (.block 1 (.seq (R (c0 14 (.mv (.s 0)) :: c0 15 (.mv (.s 3)) :: c0 16 (.ixp 13 (.s 14) (.s 15)) :: c0 17 (.mov 11 (.s 16)) :: c0 18 (.mov 1 (.s 17)) :: c0 19 (.ld false 1 (.s 18)) :: c0 20 (.len 1 (.s 19)) :: cb 21 (.bin .gtr .any (.s 20) (.c (ki .i64 40))) :: cb 22 (.mv (.s 21)) :: cg 23 22 false (.mv (.s 0)) :: cg 24 22 false (.mv (.s 3)) :: cg 25 22 false (.ixp 13 (.s 23) (.s 24)) :: cg 26 22 false (.mov 3 (.s 25)) :: cg 27 22 false (.ld true 8 (.s 26)) :: cg 28 22 false (.bsl 8 [(.s 27)]) :: ch 29 22 false (.call none (.c (kf 37)) [(.s 28)]) :: cb 30 (.pick (.s 22) (.c (kb true)) (.s 29)) :: cb 31 (.mv (.s 30)) :: cg 32 31 false (.mv (.s 0)) :: cg 33 31 false (.mv (.s 3)) :: cg 34 31 false (.ixp 13 (.s 32) (.s 33)) :: cg 35 31 false (.mov 11 (.s 34)) :: cg 36 31 false (.mov 0 (.s 35)) :: cg 37 31 false (.ld false 1 (.s 36)) :: ch 38 31 false (.bin .gtr .any (.s 37) (.c (ki .i64 1125899906842624))) :: cb 39 (.pick (.s 31) (.c (kb true)) (.s 38)) :: []) [0, 3, 39]) (.ite (.s 39) (.seq (R [cb 2 (.tk (.c (kb false)))] [2]) (.ret)) (.skip)))) (R [c0 12 (.mv (.s 3)), c0 13 (.bin .add .any (.s 12) (.c (ki .i64 1))), c0 3 (.tk (.s 13))] [0, 3])))))) (.seq (R [c0 40 (.mv (.s 0)), c0 41 (.len 1 (.s 40)), cb 42 (.bin .leq .any (.s 41) (.c (ki .i64 40))), cb 2 (.tk (.s 42))] [2]) (.ret)))
theorem fun36 : Fun Try.prog cfg 36 43 cd36 [.s 2] := ⟨rfl, Try.f36, _, Try.func36, rfl, rfl, by kernel_rfl, by kernel_rfl⟩
@[go_sem] theorem ok36 : calleeOK Try.prog 36 = true := by kernel_rfl
@[go_sem] theorem ex36 : (cfg.ext 36).isSome = false := rfl
variable {h : DHeap}
abbrev k11 : Kno := ⟨⟨0, 1, 0⟩, ⟨1, 0, 3, [47, 97], [], 0, 0, 0⟩, ⟨4, []⟩⟩
abbrev c11 : Cmd := ⟨2, 0, 4, [47, 97], [], 0, 0, 0⟩
abbrev i11 : Id := ⟨0, 2, 0⟩
abbrev a11 : Att := ⟨5, [⟨0, 1, 0⟩]⟩
abbrev b11 : Att := ⟨5, [⟨0, 1, 0⟩, ⟨0, 3, 0⟩]⟩
theorem parse_a11 : parse [47, 97] = some [[97]] := parse_pathOf (l := [[97]]) (by decide)
theorem names_a11 : namesP [47, 97] = [[97]] := by simp [namesP, parse_a11]
theorem parent_a11 : parentP [47, 97] = [47] := by simp [parentP, names_a11, pathOf, join_nil]
theorem both11 : bothB k11.cmd c11 = true := by
  have e1 : usesP k11.cmd = ([([47, 97], 101)], [([47, 97], 118)]) := by
    simp [usesP, parse_a11, ofP, parent_a11]
  have e2 : usesP c11 = ([([47, 97], 101), ([47, 97], 118)], []) := by
    simp [usesP, parse_a11, ofP, parent_a11]
  unfold bothB pathsB
  rw [e1, e2]
  decide
theorem local11 : localP [k11] i11 c11 = a11 := by
  have hm : matters i11 c11 k11 = true := by
    have := both11
    simp only [matters, this]
    decide
  have e1 : cleanP [(⟨0, 1, 0⟩ : Id)] = [⟨0, 1, 0⟩] := clean_self (by simp [Rises])
  unfold localP
  simp only [List.filter_cons, hm, if_true, List.filter_nil, List.foldl_cons, List.foldl_nil, List.map_cons, List.map_nil]
  rw [e1]
  rfl
theorem merge11 : mergeP a11 ⟨2, [⟨0, 3, 0⟩]⟩ = b11 := by
  have e1 : cleanP [(⟨0, 1, 0⟩ : Id), ⟨0, 3, 0⟩] = [⟨0, 1, 0⟩, ⟨0, 3, 0⟩] := clean_self (by simp [Rises, ordI_lt])
  show (⟨max 5 2, cleanP [⟨0, 1, 0⟩, ⟨0, 3, 0⟩]⟩ : Att) = _
  rw [e1]
  rfl
theorem sameA_self (a : Att) : sameA a a = true := sameA_iff.2 ⟨rfl, fun x => Iff.rfl⟩
set_option maxHeartbeats 1000000 in
theorem works11_lim : lim Try.prog cfg 30 [] h = some (vb true, h) := by
  refine lim_funp fun30 rfl (by simp) rfl rfl ?_
  delta cd30
  have e1 : lim Try.prog cfg 38 [.list false 13 [[vi 0, vi 1, vi 0, vi 1, vi 0, vi 3, vs [47, 97], vs [], vi 0, vi 0, vi 0, vi 4, .list false 3 []]], .agg [vi 0, vi 2, vi 0], .agg [vi 2, vi 0, vi 4, vs [47, 97], vs [], vi 0, vi 0, vi 0]] [] = some (.agg [vi 5, .list false 3 [[vi 0, vi 1, vi 0]]], []) := by
    have e := local_lim (h := []) false [k11] i11 c11 (by simp) (by simp) (by simp)
    rw [local11] at e
    exact e
  have e2 : lim Try.prog cfg 31 [.agg [vi 5, .list false 3 [[vi 0, vi 1, vi 0]]], .agg [vi 2, .list false 3 [[vi 0, vi 3, vi 0]]]] [] = some (.agg [vi 5, .list false 3 [[vi 0, vi 1, vi 0], [vi 0, vi 3, vi 0]]], []) := by
    have e := merge_lim (h := []) a11 ⟨2, [⟨0, 3, 0⟩]⟩ (by simp)
    rw [merge11] at e
    exact e
  have e3 : lim Try.prog cfg 41 [.agg [vi 0, vi 2, vi 0], .agg [vi 5, .list false 3 [[vi 0, vi 1, vi 0], [vi 0, vi 3, vi 0]]]] [] = some (vb true, []) := by
    have e := validA_lim (h := []) i11 b11 (by simp)
    rw [show validA i11 b11 = true by decide] at e
    exact e
  have e4 : lim Try.prog cfg 33 [.agg [vi 5, .list false 3 [[vi 0, vi 1, vi 0]]], .agg [vi 5, .list false 3 [[vi 0, vi 1, vi 0]]]] [] = some (vb true, []) := by
    have e := sameA_lim (h := []) a11 a11 (by simp) (by simp)
    rw [sameA_self] at e
    exact e
  have e5 : lim Try.prog cfg 40 [.agg [vi 0, vi 1, vi 0, vi 1, vi 0, vi 3, vs [47, 97], vs [], vi 0, vi 0, vi 0, vi 4, .list false 3 []], .agg [vi 0, vi 2, vi 0, vi 2, vi 0, vi 4, vs [47, 97], vs [], vi 0, vi 0, vi 0, vi 5, .list false 3 [[vi 0, vi 1, vi 0]]]] [] = some (vb true, []) := by
    have e := linked_lim (h := []) k11 ⟨i11, c11, a11⟩ (by simp) (by simp)
    rw [show linkedP k11 ⟨i11, c11, a11⟩ = true by decide] at e
    exact e
  have e6 : lim Try.prog cfg 60 [.list false 2 [[vi 5, .list false 3 [[vi 0, vi 1, vi 0]]], [vi 5, .list false 3 [[vi 0, vi 1, vi 0]]]]] [] = some (vb true, []) := by
    have e := agree_lim (h := []) false [a11, a11] (by simp) (by simp)
    rw [show agreeP [a11, a11] = true by simp [agreeP, sameA_self]] at e
    exact e
  have e7 : ∃ zd, lim Try.prog cfg 32 [.list false 2 [[vi 5, .list false 3 [[vi 0, vi 1, vi 0]]], [vi 5, .list false 3 [[vi 0, vi 1, vi 0], [vi 0, vi 3, vi 0]]]]] [] = some (.agg [vi 5, .list false 3 (idr zd)], []) := by
    have e := allA_lim (h := []) false [a11, b11] (by simp) (by simp)
    have q : (allA [a11, b11]).seq = 5 := by decide
    generalize allA [a11, b11] = z at e q
    obtain ⟨zs, zd⟩ := z
    dsimp only at q
    subst q
    exact ⟨zd, e⟩
  obtain ⟨zd, e7⟩ := e7
  simp -implicitDefEqProofs -dsimp (maxSteps := 1000000) only [go_sem, e1, e2, e3, e4, e5, e6, e7]
def badK (x : Kno) : Bool := decide (40 < x.att.deps.length) || overP [x.cmd] || decide (1125899906842624 < x.att.seq)
def fewP (l : List Kno) : Bool := !((l.take 41).any badK) && decide (l.length ≤ 40)
set_option maxHeartbeats 1000000 in
theorem few_lim (own : Bool) (l : List Kno) (hl : l.length ≤ 1099511627776) : lim Try.prog cfg 36 [.list own 13 (kns l)] h = some (vb (fewP l), h) := by
  refine lim_funp fun36 rfl (by simp) (by simp [heapFree, free_kns]) rfl ?_
  delta cd36
  simp -implicitDefEqProofs -dsimp only [go_sem]
  refine wp_for (σ := Nat) (fun k => [(0, .list false 13 (kns l)), (3, vi (k : Nat))]) (fun _ => []) (fun k => l.length - k) (fun k => k ≤ l.length ∧ k ≤ 41 ∧ (l.take k).any badK = false) 0 (by simp) rfl rfl ?_
  rintro k ⟨hk, hk2, hj⟩ N hN
  by_cases hlt : k < l.length
  · have h1 : ((k : Int) < (l.length : Int)) := by omega
    by_cases h40 : k ≤ 40
    · have h2 : ((k : Int) ≤ 40) := by omega
      have hs := List.take_succ_eq_append_getElem hlt
      have o1 := over_lim (h := []) false [l[k].cmd] (by simp)
      simp only [cms, List.map_cons, List.map_nil] at o1
      cases hb : badK l[k] with
      | true =>
        have ho : fewP l = false := by
          have : (l.take 41).any badK = true := by
            rw [List.any_eq_true]
            exact ⟨l[k], List.mem_take_iff_getElem.2 ⟨k, by omega, rfl⟩, hb⟩
          simp [fewP, this]
        rw [ho]
        by_cases b1 : 40 < l[k].att.deps.length
        · have b1' : (40 : Int) < (l[k].att.deps.length : Int) := by omega
          simp -implicitDefEqProofs -dsimp only [go_sem, h1, h2, hlt, b1']
        · have b1' : ¬ (40 : Int) < (l[k].att.deps.length : Int) := by omega
          cases b2 : overP [l[k].cmd] with
          | true =>
            rw [b2] at o1
            simp -implicitDefEqProofs -dsimp only [go_sem, h1, h2, hlt, b1', o1]
          | false =>
            rw [b2] at o1
            have b3 : 1125899906842624 < l[k].att.seq := by
              simp only [badK, b1, b2, decide_false, Bool.false_or, decide_eq_true_eq] at hb
              exact hb
            simp -implicitDefEqProofs -dsimp only [go_sem, h1, h2, hlt, b1', o1, b3]
      | false =>
        have hb' := hb
        simp only [badK, Bool.or_eq_false_iff, decide_eq_false_iff_not] at hb'
        obtain ⟨⟨b1, b2⟩, b3⟩ := hb'
        have b1' : ¬ (40 : Int) < (l[k].att.deps.length : Int) := by omega
        rw [b2] at o1
        simp -implicitDefEqProofs -dsimp only [go_sem, h1, h2, hlt, b1', o1, b3]
        refine hN (k + 1) _ (by omega) ⟨by omega, by omega, ?_⟩ ?_
        · rw [hs, List.any_append, hj]; simpa using hb
        · simp -implicitDefEqProofs -dsimp only [go_sem, wrap_succ (show k < 9223372036854775807 by omega)]
    · have h2 : ¬ ((k : Int) ≤ 40) := by omega
      have h3 : ¬ (l.length : Int) ≤ 40 := by omega
      have ho : fewP l = false := by
        unfold fewP
        rw [decide_eq_false (by omega), Bool.and_false]
      simp -implicitDefEqProofs -dsimp only [go_sem, h1, h2, h3, ho]
  · have h1 : ¬ ((k : Int) < (l.length : Int)) := by omega
    have : k = l.length := by omega
    subst this
    rw [List.take_length] at hj
    have ho : fewP l = decide (l.length ≤ 40) := by
      have : (l.take 41).any badK = false := by rw [List.take_of_length_le (by omega)]; exact hj
      simp [fewP, this]
    rw [ho]
    by_cases h3 : l.length ≤ 40
    · have h4 : (l.length : Int) ≤ 40 := by omega
      simp -implicitDefEqProofs -dsimp only [go_sem, h1, h3, h4]
    · have h4 : ¬ (l.length : Int) ≤ 40 := by omega
      simp -implicitDefEqProofs -dsimp only [go_sem, h1, h3, h4]
theorem fewP_iff {l : List Kno} : fewP l = true ↔ l.length ≤ 40 ∧ ∀ x ∈ l, x.att.deps.length ≤ 40 ∧ overP [x.cmd] = false ∧ x.att.seq ≤ 1125899906842624 := by
  unfold fewP
  simp only [Bool.and_eq_true, Bool.not_eq_true', decide_eq_true_eq]
  constructor
  · rintro ⟨h1, h2⟩
    rw [List.take_of_length_le (by omega)] at h1
    refine ⟨h2, fun x hx => ?_⟩
    rw [List.any_eq_false] at h1
    have := h1 x hx
    simp only [badK, Bool.or_eq_true, decide_eq_true_eq, not_or] at this
    refine ⟨by omega, by simpa using this.1.2, by omega⟩
  · rintro ⟨h1, h2⟩
    rw [List.take_of_length_le (by omega)]
    refine ⟨?_, h1⟩
    rw [List.any_eq_false]
    intro x hx
    obtain ⟨a, b, c⟩ := h2 x hx
    simp only [badK, b, Bool.or_false, Bool.or_eq_true, decide_eq_true_eq]
    omega
theorem over1 {c : Cmd} (h : overP [c] = false) : c.path.length ≤ 300 ∧ c.value.length ≤ 300 := by
  simp only [overP, List.take_succ_cons, List.take_nil, List.any_cons, List.any_nil, Bool.or_false, bigC, Bool.or_eq_false_iff, decide_eq_false_iff_not] at h
  omega
structure KnoB (x : Kno) : Prop where
  path : x.cmd.path.length ≤ 1048576
  len : x.att.deps.length ≤ 1048576
end Go.DS
