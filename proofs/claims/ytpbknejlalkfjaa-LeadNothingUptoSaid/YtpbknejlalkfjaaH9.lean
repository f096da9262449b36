/-
  Walks: the functions of touch.
-/
import Derived.Test.YtpbknejlalkfjaaH8
set_option linter.unusedSimpArgs false
set_option linter.unusedVariables false
namespace Go.DS
open Go Go.Proofs
set_option maxRecDepth 100000
set_option linter.unusedVariables false
set_option linter.unusedSimpArgs false
variable {h : DHeap}
/-- What lies in rows of rows. -/
def clss (ls : List (List Cel)) : List (List DV) := ls.map fun l => [.list false 2 (cls l)]
@[go_sem] theorem clss_len (l : List (List Cel)) : (clss l).length = l.length := by simp [clss]
@[go_sem high] theorem idxP_clss (l : List (List Cel)) (i : Int) (N : List DV → Prop) : IdxP (clss l) i N = IdxP l i fun c => N [.list false 2 (cls c)] := idxP_map
theorem free_clss : ∀ l : List (List Cel), heapFree.alls (clss l) = true
  | [] => rfl
  | s :: l => by
    have := free_clss l
    simp only [clss] at this
    simp only [clss, List.map_cons, heapFree.alls, heapFree.all, heapFree, this, free_cls, Bool.and_self]
theorem flat_le {ls : List (List Cel)} {l : List Cel} (h : l ∈ ls) : l.length ≤ ls.flatten.length := by
  induction ls with
  | nil => cases h
  | cons a ls ih =>
    simp only [List.flatten_cons, List.length_append]
    rcases List.mem_cons.1 h with rfl | h
    · omega
    · have := ih h; omega
theorem flat_take (ls : List (List Cel)) (k : Nat) (hk : k < ls.length) : (ls.take (k + 1)).flatten = (ls.take k).flatten ++ ls[k] := by
  rw [List.take_succ_eq_append_getElem hk, List.flatten_append, List.flatten_cons, List.flatten_nil, List.append_nil]
theorem flat_take_le (ls : List (List Cel)) (k : Nat) : (ls.take k).flatten.length ≤ ls.flatten.length := by
  conv => rhs; rw [← List.take_append_drop k ls]
  rw [List.flatten_append, List.length_append]
  omega
def idxI : Option Nat → Int
  | some n => n
  | none => -1
theorem idxI_some (n : Nat) : idxI (some n) = n := rfl
theorem idxI_none : idxI none = -1 := rfl
abbrev useD (r w : List Cel) : DV := .agg [.list false 2 (cls r), .list false 2 (cls w)]
end Go.DS

/-
  Walks: sets of instances.
-/
namespace Go.DS
open Go Go.Proofs
set_option maxRecDepth 100000
set_option linter.unusedVariables false
set_option linter.unusedSimpArgs false
@[go_sem] theorem ok76 : calleeOK Try.prog 76 = true := by kernel_rfl
@[go_sem] theorem ex76 : (cfg.ext 76).isSome = true := rfl
@[go_sem] theorem ok72 : calleeOK Try.prog 72 = true := by kernel_rfl
@[go_sem] theorem ex72 : (cfg.ext 72).isSome = true := rfl
def cd73 : Cd := .seq (R [c0 2 (.tk (.c (.sc (.map none))))] [0, 7]) (.seq (R [c0 8 (.mkm), c0 3 (.tk (.s 8))] [0, 3, 7]) (.seq (.seq (R [c0 9 (.mv (.s 0)), c0 10 (.len 1 (.s 9)), c0 11 (.mv (.c (ki .i64 0)))] [3, 7, 9, 10, 11]) (.block 0 (LP [3, 7, 9, 10, 11] (.seq (R [c0 12 (.bin .lss .any (.s 11) (.s 10))] [3, 7, 9, 10, 11, 12]) (.seq (.ite (.s 12) (.skip) (.exit 0)) (.seq (.block 1 (.seq (R [c0 13 (.ixp 1 (.s 9) (.s 11)), c0 14 (.ldx true false 5 (.s 13)), c0 5 (.tk (.s 14))] [3, 5, 7, 9, 10, 11]) (.seq (R [c0 15 (.mv (.s 5)), c0 16 (.len 1 (.s 15)), c0 17 (.mv (.c (ki .i64 0)))] [3, 7, 9, 10, 11, 15, 16, 17]) (.block 2 (LP [3, 7, 9, 10, 11, 15, 16, 17] (.seq (R [c0 18 (.bin .lss .any (.s 17) (.s 16))] [3, 7, 9, 10, 11, 15, 16, 17, 18]) (.seq (.ite (.s 18) (.skip) (.exit 2)) (.seq (.block 3 (.seq (R [c0 19 (.ixp 3 (.s 15) (.s 17)), c0 20 (.ld true 3 (.s 19)), c0 7 (.new false (.c (.agg [ki .i64 0, ki .i64 0, ki .i64 0]))), cn (.st 3 (.s 7) (.s 20))] [3, 7, 9, 10, 11, 15, 16, 17]) (R [c0 21 (.mv (.s 3)), c0 22 (.ld true 3 (.s 7)), cn (.mup [0, 0, 0] true 3 (.s 21) (.s 22) (.c (kb true)))] [3, 7, 9, 10, 11, 15, 16, 17]))) (R [c0 23 (.bin .add .any (.s 17) (.c (ki .i64 1))), c0 17 (.mv (.s 23))] [3, 7, 9, 10, 11, 15, 16, 17]))))))))) (R [c0 24 (.bin .add .any (.s 11) (.c (ki .i64 1))), c0 11 (.mv (.s 24))] [3, 7, 9, 10, 11]))))))) (.seq (R [c0 25 (.mv (.s 3)), c0 2 (.tk (.s 25))] [2, 7]) (.ret))))
theorem fun73 : Fun Try.prog cfg 73 26 cd73 [.s 2] := ⟨rfl, Try.f73, _, Try.func73, rfl, rfl, by kernel_rfl, by kernel_rfl⟩
@[go_sem] theorem ok73 : calleeOK Try.prog 73 = true := by kernel_rfl
@[go_sem] theorem ex73 : (cfg.ext 73).isSome = false := rfl
def cd77 : Cd := .seq (R [c0 1 (.new true (.s 0)), c0 2 (.tk (.c (.sc .nilFunc)))] [1]) (.seq (R [c0 3 (.mkf (.func 81) 0 [(.s 1)]), c0 2 (.tk (.s 3))] [1, 2]) (.ret))
theorem fun77 : Fun Try.prog cfg 77 4 cd77 [.s 2] := ⟨rfl, Try.f77, _, Try.func77, rfl, rfl, by kernel_rfl, by kernel_rfl⟩
@[go_sem] theorem ok77 : calleeOK Try.prog 77 = true := by kernel_rfl
@[go_sem] theorem ex77 : (cfg.ext 77).isSome = false := rfl
def cd75 : Cd := .seq (R [c0 2 (.tk (.c (kn 3)))] [0]) (.seq (R [c0 3 (.mv (.s 0)), c0 4 (.call none (.c (kf 77)) [(.s 3)]), c0 5 (.call none (.c (kf 76)) [(.s 4), (.c (kf 78))]), c0 2 (.tk (.s 5))] [2]) (.ret))
theorem fun75 : Fun Try.prog cfg 75 6 cd75 [.s 2] := ⟨rfl, Try.f75, _, Try.func75, rfl, rfl, by kernel_rfl, by kernel_rfl⟩
@[go_sem] theorem ok75 : calleeOK Try.prog 75 = true := by kernel_rfl
@[go_sem] theorem ex75 : (cfg.ext 75).isSome = false := rfl
def cd74 : Cd := .seq (R [c0 4 (.tk (.c (kn 3)))] [0, 1]) (.seq (R [c0 5 (.mv (.s 0)), c0 6 (.mv (.s 1)), c0 7 (.bsl 1 [(.s 5), (.s 6)]), c0 8 (.call none (.c (kf 73)) [(.s 7)]), c0 9 (.call none (.c (kf 75)) [(.s 8)]), c0 4 (.tk (.s 9))] [4]) (.ret))
theorem fun74 : Fun Try.prog cfg 74 10 cd74 [.s 4] := ⟨rfl, Try.f74, _, Try.func74, rfl, rfl, by kernel_rfl, by kernel_rfl⟩
@[go_sem] theorem ok74 : calleeOK Try.prog 74 = true := by kernel_rfl
@[go_sem] theorem ex74 : (cfg.ext 74).isSome = false := rfl
def cd62 : Cd := .seq (R [cb 4 (.tk (.c (kb false)))] [0, 1]) (.seq (R [c0 5 (.mv (.s 0)), c0 6 (.bsl 1 [(.s 5)]), c0 7 (.call none (.c (kf 73)) [(.s 6)]), c0 8 (.mv (.s 1)), c0 9 (.bsl 1 [(.s 8)]), c0 10 (.call none (.c (kf 73)) [(.s 9)]), cb 11 (.call none (.c (kf 72)) [(.s 7), (.s 10)]), cb 4 (.tk (.s 11))] [4]) (.ret))
theorem fun62 : Fun Try.prog cfg 62 12 cd62 [.s 4] := ⟨rfl, Try.f62, _, Try.func62, rfl, rfl, by kernel_rfl, by kernel_rfl⟩
@[go_sem] theorem ok62 : calleeOK Try.prog 62 = true := by kernel_rfl
@[go_sem] theorem ex62 : (cfg.ext 62).isSome = false := rfl
variable {h : DHeap}
theorem ordIOK : OrdIOK Try.prog 78 := ⟨by kernel_rfl, fun a b => @lim_sound ⟨true⟩ _ _ ext_okA _ _ _ _ _ (MI.ordD_lim (h := []) a b)⟩
theorem set_setD (c : Id) : ∀ l : List Id, setKey [0, 0, 0] (.agg [vi c.e, vi c.n, vi c.k]) (.sc (.bool true)) (setD l) = some (setD (insI c l))
  | [] => rfl
  | d :: l => by
    have ih := set_setD c l
    simp only [setD] at ih
    simp only [setD, List.map_cons, setKey, eqK_id]
    by_cases h : c = d
    · subst h; simp [insI]
    · simp only [h, decide_false, ih, Option.map_some, Option.some.injEq]
      have : insI c (d :: l) = d :: insI c l := by
        unfold insI
        simp only [List.mem_cons, h, false_or]
        split <;> rfl
      rw [this]; rfl
/-- Rows of rows of instances. -/
def idrs (ls : List (List Id)) : List (List DV) := ls.map fun l => [.list false 3 (idr l)]
@[go_sem] theorem idrs_len (l : List (List Id)) : (idrs l).length = l.length := by simp [idrs]
@[go_sem high] theorem idxP_idrs (l : List (List Id)) (i : Int) (N : List DV → Prop) : IdxP (idrs l) i N = IdxP l i fun c => N [.list false 3 (idr c)] := idxP_map
theorem flatI_take (ls : List (List Id)) (k : Nat) (hk : k < ls.length) : (ls.take (k + 1)).flatten = (ls.take k).flatten ++ ls[k] := by
  rw [List.take_succ_eq_append_getElem hk, List.flatten_append, List.flatten_cons, List.flatten_nil, List.append_nil]
theorem mapNew (h : DHeap) (o : DObj) : (h ++ [o])[h.length]? = some o := by simp
theorem mapP_new (h : DHeap) (es : List (DV × DV)) (N : List (DV × DV) → Prop) : MapP (h ++ [.map es]) h.length N = N es := by simp [MapP]
theorem set_new (h : DHeap) (o o' : DObj) : (h ++ [o]).set h.length o' = h ++ [o'] := by simp
theorem ofD_lim (own : Bool) (ls : List (List Id)) (hl : ls.length ≤ 1000000) (hs : ∀ l ∈ ls, l.length ≤ 1099511627776) :
    lim Try.prog cfg 73 [.list own 1 (idrs ls)] h = some (.mp h.length, h ++ [.map (setD (setOf ls.flatten))]) := by
  refine lim_fun fun73 rfl (by simp) rfl ?_
  delta cd73
  simp -implicitDefEqProofs -dsimp only [go_sem]
  refine wp_for (σ := Nat × DV) (fun k => [(3, .mp h.length), (7, k.2), (9, .list false 1 (idrs ls)), (10, vi (ls.length : Nat)), (11, vi (k.1 : Nat))]) (fun k => h ++ [.map (setD (setOf (ls.take k.1).flatten))]) (fun k => ls.length - k.1) (fun k => k.1 ≤ ls.length) (0, .junk) (by simp) rfl rfl ?_
  rintro ⟨k, x⟩ hk N hN
  dsimp only at hk ⊢
  by_cases hlt : k < ls.length
  · have h1 : ((k : Int) < (ls.length : Int)) := by omega
    have hll := hs _ (List.getElem_mem hlt)
    simp -implicitDefEqProofs -dsimp only [go_sem, h1, hlt]
    refine wp_for (σ := Nat × DV) (fun j => [(3, .mp h.length), (7, j.2), (9, .list false 1 (idrs ls)), (10, vi (ls.length : Nat)), (11, vi (k : Nat)), (15, .list false 3 (idr ls[k])), (16, vi (ls[k].length : Nat)), (17, vi (j.1 : Nat))]) (fun j => h ++ [DObj.map (setD (setOf ((ls.take k).flatten ++ ls[k].take j.1)))]) (fun j => ls[k].length - j.1) (fun j => j.1 ≤ ls[k].length) (0, x) (by simp) rfl (by simp) ?_
    rintro ⟨j, y⟩ hj M hM
    dsimp only at hj ⊢
    by_cases hjt : j < ls[k].length
    · have h2 : ((j : Int) < (ls[k].length : Int)) := by omega
      have e : insI ls[k][j] (setOf ((ls.take k).flatten ++ ls[k].take j)) = setOf ((ls.take k).flatten ++ ls[k].take (j + 1)) := by
        rw [List.take_succ_eq_append_getElem hjt, ← List.append_assoc, setOf_snoc]
      simp -implicitDefEqProofs -dsimp only [go_sem, h2, hjt, mapP_new, set_setD, set_new, e]
      refine hM (j + 1, .box [vi ls[k][j].e, vi ls[k][j].n, vi ls[k][j].k]) _ (by dsimp only; omega) (by dsimp only; omega) ?_
      simp -implicitDefEqProofs -dsimp only [go_sem, wrap_succ (show j < 9223372036854775807 by omega)]
    · have h2 : ¬ ((j : Int) < (ls[k].length : Int)) := by omega
      have hj2 : ls[k].take j = ls[k] := List.take_of_length_le (by omega)
      simp -implicitDefEqProofs -dsimp only [go_sem, h2]
      rw [hj2, ← flatI_take ls k hlt]
      refine hN (k + 1, y) _ (by dsimp only; omega) (by dsimp only; omega) ?_
      simp -implicitDefEqProofs -dsimp only [go_sem, wrap_succ (show k < 9223372036854775807 by omega)]
  · have h1 : ¬ ((k : Int) < (ls.length : Int)) := by omega
    have hkl : ls.take k = ls := List.take_of_length_le (by omega)
    rw [hkl]
    simp -implicitDefEqProofs -dsimp only [go_sem, h1]
theorem keysD_lim (j : Nat) : lim Try.prog cfg 77 [.mp j] h = some (.fn (.func 81) [] [.ptr h.length 0], h ++ [.cells [.mp j]]) := by
  refine lim_fun fun77 rfl (by simp) rfl ?_
  delta cd77
  simp -implicitDefEqProofs -dsimp only [go_sem]
theorem setD_keys (l : List Id) : (setD l).map (fun e => keyD e.1) = l := by
  simp only [setD, List.map_map]
  exact (List.map_congr_left fun e _ => rfl).trans (List.map_id l)
theorem keysDOK {l : List Id} (hn : l.Nodup) (hl : l.length ≤ 1048576) : KeysDOK (setD l) l := ⟨by simp only [setD, List.map_map]; rfl, hn, hl⟩
theorem sortedD_lim {i j : Nat} {l : List Id} (hn : l.Nodup) (hl : l.length ≤ 1048576) (hi : h[i]? = some (.cells [.mp j])) (hj : h[j]? = some (.map (setD l))) :
    lim Try.prog cfg 76 [.fn (.func 81) [] [.ptr i 0], .fn (.func 78) [] []] h = some (.list true 3 (idr (sortD l)), h) := by
  refine lim_ext rfl ?_ rfl
  show keysDF _ _ _ [.fn (.func 81) [] [.ptr i 0], .fn (.func 78) [] []] h = _
  simp only [keysDF, hi, hj]
  generalize hks : (setD l).map (fun e => keyD e.1) = ks
  rw [setD_keys] at hks
  subst hks
  rw [if_pos ⟨rfl, rfl, keysDOK hn hl, ordIOK⟩]
theorem listD_lim {j : Nat} {l : List Id} (hn : l.Nodup) (hl : l.length ≤ 1048576) (hj : h[j]? = some (.map (setD l))) :
    lim Try.prog cfg 75 [.mp j] h = some (.list true 3 (idr (sortD l)), h ++ [.cells [.mp j]]) := by
  refine lim_fun fun75 rfl (by simp) rfl ?_
  delta cd75
  have e1 := keysD_lim (h := h) j
  have e2 := sortedD_lim (h := h ++ [.cells [.mp j]]) (i := h.length) (j := j) hn hl (by simp) (by rw [List.getElem?_append_left (List.getElem?_eq_some_iff.1 hj).1]; exact hj)
  simp -implicitDefEqProofs -dsimp only [go_sem, e1, e2]
theorem unionD_lim (o1 o2 : Bool) (l m : List Id) (hl : l.length + m.length ≤ 1048576) : lim Try.prog cfg 74 [.list o1 3 (idr l), .list o2 3 (idr m)] h = some (.list true 3 (idr (cleanP (l ++ m))), h) := by
  refine lim_funp fun74 rfl (by simp) (by simp [heapFree, free_idr]) (by simp [heapFree, free_idr]) ?_
  delta cd74
  have e1 := ofD_lim (h := []) false [l, m] (by simp) (by simp; omega)
  have e2 := listD_lim (h := [.map (setD (setOf (l ++ m)))]) (j := 0) (l := setOf (l ++ m)) (setOf_nodup _) (by have := setOf_len (l ++ m); simp at this; omega) rfl
  simp only [idrs, List.map_cons, List.map_nil, List.flatten_cons, List.flatten_nil, List.append_nil, List.length_nil, List.nil_append] at e1
  simp -implicitDefEqProofs -dsimp only [go_sem, e1, e2]
  rfl
@[go_sem] theorem eqs_id (x y : Id) : eqs [0, 0, 0] [vi x.e, vi x.n, vi x.k] [vi y.e, vi y.n, vi y.k] = some (decide (x = y)) := by
  have := eqK_id x y
  simpa [eqKey] using this
theorem equalD_lim {i j : Nat} {l m : List Id} (hl : l.Nodup) (hm : m.Nodup) (h1 : l.length ≤ 1048576) (h2 : m.length ≤ 1048576) (hi : h[i]? = some (.map (setD l))) (hj : h[j]? = some (.map (setD m))) :
    lim Try.prog cfg 72 [.mp i, .mp j] h = some (vb (sameP l m), h) := by
  refine lim_ext rfl ?_ rfl
  show equalDF [.mp i, .mp j] h = _
  simp only [equalDF, hi, hj]
  generalize hks : (setD l).map (fun e => keyD e.1) = ks
  generalize hms : (setD m).map (fun e => keyD e.1) = ms
  rw [setD_keys] at hks hms
  subst hks; subst hms
  rw [if_pos ⟨keysDOK hl h1, keysDOK hm h2, rfl, rfl⟩]
theorem same_setOf (l m : List Id) : sameP (setOf l) (setOf m) = sameP l m := by
  rw [Bool.eq_iff_iff, sameP_iff, sameP_iff]
  simp only [mem_setOf]
theorem sameD_lim (o1 o2 : Bool) (l m : List Id) (h1 : l.length ≤ 1048576) (h2 : m.length ≤ 1048576) : lim Try.prog cfg 62 [.list o1 3 (idr l), .list o2 3 (idr m)] h = some (vb (sameP l m), h) := by
  refine lim_funp fun62 rfl (by simp) (by simp [heapFree, free_idr]) rfl ?_
  delta cd62
  have e1 := ofD_lim (h := []) false [l] (by simp) (by simp; omega)
  have e2 := ofD_lim (h := [.map (setD (setOf l))]) false [m] (by simp) (by simp; omega)
  have e3 := equalD_lim (h := [.map (setD (setOf l)), .map (setD (setOf m))]) (i := 0) (j := 1) (setOf_nodup l) (setOf_nodup m) (by have := setOf_len l; omega) (by have := setOf_len m; omega) rfl rfl
  rw [same_setOf] at e3
  simp only [idrs, List.map_cons, List.map_nil, List.flatten_cons, List.flatten_nil, List.append_nil, List.length_nil, List.nil_append, List.length_cons, List.cons_append] at e1 e2
  cases hc : sameP l m <;> rw [hc] at e3 <;> simp -implicitDefEqProofs -dsimp only [go_sem, e1, e2, e3]
theorem rightI_of (l : List Id) : rightI l = true ↔ ∀ i (h : i + 1 < l.length), lessI (l[i]'(by omega)) l[i + 1] = true := by
  induction l with
  | nil => simp [rightI]
  | cons a l ih =>
    cases l with
    | nil => simp [rightI]
    | cons b l =>
      simp only [rightI, Bool.and_eq_true, ih]
      constructor
      · rintro ⟨h1, h2⟩ i hi
        cases i with
        | zero => exact h1
        | succ i => exact h2 i (by simpa using hi)
      · intro hh
        exact ⟨hh 0 (by simp), fun i hi => hh (i + 1) (by simpa using hi)⟩
theorem any_mem {α : Type} [DecidableEq α] (x : α) (l : List α) : l.any (fun y => decide (x = y)) = decide (x ∈ l) := by
  rw [Bool.eq_iff_iff]
  simp only [List.any_eq_true, decide_eq_true_eq]
  exact ⟨fun ⟨y, hy, e⟩ => e ▸ hy, fun h => ⟨x, h, rfl⟩⟩
end Go.DS

/-
  Walks: attributes.
-/
namespace Go.DS
open Go Go.Proofs
set_option maxRecDepth 100000
set_option linter.unusedVariables false
set_option linter.unusedSimpArgs false
def cd69 : Cd := .seq (R [c0 2 (.new false (.s 0)), c0 3 (.new false (.s 1)), c0 4 (.new false (.c (.agg [ki .i64 0, kn 3])))] [2, 3, 4]) (.seq (RD [cd (some 5) false none (.mov 0 (.s 2)) false false [2], cd (some 6) false none (.ld false 1 (.s 5)) false false [5], cd (some 7) false none (.mov 0 (.s 3)) false false [3], cd (some 8) false none (.ld false 1 (.s 7)) false false [7], cd (some 9) false none (.mm true (.s 6) (.s 8)) false false [6, 8], cd (some 10) false none (.mov 1 (.s 2)) false false [2], cd (some 11) false none (.ld false 5 (.s 10)) false false [10], cd (some 12) false none (.mov 1 (.s 3)) false false [3], cd (some 13) false none (.ld false 5 (.s 12)) false false [12], cd (some 14) false none (.call none (.c (kf 74)) [(.s 11), (.s 13)]) false false [11, 13], cd (some 15) false none (.bld [ki .i64 0, kz 3] [(0, 1, (.s 9)), (1, 1, (.s 14))]) false false [9, 14], cd none false none (.st 2 (.s 4) (.s 15)) false false [4, 15]] [2, 3, 4] []) (.ret))
theorem fun69 : Fun Try.prog cfg 69 16 cd69 [.b 4 true 2] := ⟨rfl, Try.f69, _, Try.func69, rfl, rfl, by kernel_rfl, by kernel_rfl⟩
@[go_sem] theorem ok69 : calleeOK Try.prog 69 = true := by kernel_rfl
@[go_sem] theorem ex69 : (cfg.ext 69).isSome = false := rfl
def cd58 : Cd := .seq (R [c0 2 (.new false (.s 0)), c0 4 (.new false (.c (.agg [ki .i64 0, kn 3])))] [1, 2, 4, 6]) (.seq (.seq (R [c0 7 (.mv (.s 1)), c0 8 (.len 1 (.s 7)), c0 9 (.mv (.c (ki .i64 0)))] [2, 4, 6, 7, 8, 9]) (.block 0 (LP [2, 4, 6, 7, 8, 9] (.seq (R [c0 10 (.bin .lss .any (.s 9) (.s 8))] [2, 4, 6, 7, 8, 9, 10]) (.seq (.ite (.s 10) (.skip) (.exit 0)) (.seq (.block 1 (.seq (R [c0 11 (.ixp 2 (.s 7) (.s 9)), c0 12 (.ld true 2 (.s 11)), c0 6 (.new false (.c (.agg [ki .i64 0, kn 3]))), cn (.st 2 (.s 6) (.s 12))] [2, 4, 6, 7, 8, 9]) (R [c0 13 (.ld true 2 (.s 2)), c0 14 (.ld true 2 (.s 6)), c0 15 (.call none (.c (kf 69)) [(.s 13), (.s 14)]), cn (.st 2 (.s 2) (.s 15))] [2, 4, 6, 7, 8, 9]))) (R [c0 16 (.bin .add .any (.s 9) (.c (ki .i64 1))), c0 9 (.mv (.s 16))] [2, 4, 6, 7, 8, 9]))))))) (.seq (R [c0 17 (.ld true 2 (.s 2)), cn (.st 2 (.s 4) (.s 17))] [2, 4, 6]) (.ret)))
theorem fun58 : Fun Try.prog cfg 58 18 cd58 [.b 4 true 2] := ⟨rfl, Try.f58, _, Try.func58, rfl, rfl, by kernel_rfl, by kernel_rfl⟩
@[go_sem] theorem ok58 : calleeOK Try.prog 58 = true := by kernel_rfl
@[go_sem] theorem ex58 : (cfg.ext 58).isSome = false := rfl
def cd41 : Cd := .seq (R [c0 2 (.new false (.c (.agg [ki .i64 0, kn 3])))] [0, 2]) (.seq (.seq (R [c0 3 (.mv (.s 0)), c0 4 (.len 1 (.s 3)), cb 5 (.bin .eql .any (.s 4) (.c (ki .i64 0)))] [0, 2, 5]) (.ite (.s 5) (.seq (R [c0 6 (.bld [ki .i64 0, kz 3] []), cn (.st 2 (.s 2) (.s 6))] [2]) (.ret)) (.skip))) (.seq (R [c0 7 (.mv (.s 0)), c0 8 (.ixp 2 (.s 7) (.c (ki .i64 0))), c0 9 (.mov 0 (.s 8)), c0 10 (.ld false 1 (.s 9)), c0 11 (.bld [ki .i64 0, kz 3] [(0, 1, (.s 10))]), c0 12 (.mv (.s 0)), c0 13 (.call none (.c (kf 58)) [(.s 11), (.s 12)]), cn (.st 2 (.s 2) (.s 13))] [2]) (.ret)))
theorem fun41 : Fun Try.prog cfg 41 14 cd41 [.b 2 true 2] := ⟨rfl, Try.f41, _, Try.func41, rfl, rfl, by kernel_rfl, by kernel_rfl⟩
@[go_sem] theorem ok41 : calleeOK Try.prog 41 = true := by kernel_rfl
@[go_sem] theorem ex41 : (cfg.ext 41).isSome = false := rfl
def cd53 : Cd := .seq (R [c0 2 (.new false (.s 0)), c0 3 (.new false (.s 1)), cb 4 (.tk (.c (kb false)))] [2, 3]) (.seq (R [c0 5 (.mov 0 (.s 2)), c0 6 (.ld false 1 (.s 5)), c0 7 (.mov 0 (.s 3)), c0 8 (.ld false 1 (.s 7)), cb 9 (.bin .eql .any (.s 6) (.s 8)), cb 10 (.mv (.s 9)), cg 11 10 true (.mov 1 (.s 2)), cg 12 10 true (.ld false 5 (.s 11)), cg 13 10 true (.mov 1 (.s 3)), cg 14 10 true (.ld false 5 (.s 13)), ch 15 10 true (.call none (.c (kf 62)) [(.s 12), (.s 14)]), cb 16 (.pick (.s 10) (.s 15) (.c (kb false))), cb 4 (.tk (.s 16))] [2, 3, 4]) (.ret))
theorem fun53 : Fun Try.prog cfg 53 17 cd53 [.s 4] := ⟨rfl, Try.f53, _, Try.func53, rfl, rfl, by kernel_rfl, by kernel_rfl⟩
@[go_sem] theorem ok53 : calleeOK Try.prog 53 = true := by kernel_rfl
@[go_sem] theorem ex53 : (cfg.ext 53).isSome = false := rfl
def cd68 : Cd := .seq (R [cb 2 (.tk (.c (kb false)))] [0, 4]) (.seq (.seq (R [c0 5 (.mv (.s 0)), c0 6 (.len 1 (.s 5)), c0 7 (.mv (.c (ki .i64 0)))] [0, 4, 5, 6, 7]) (.block 0 (LP [0, 4, 5, 6, 7] (.seq (R [c0 8 (.bin .lss .any (.s 7) (.s 6))] [0, 4, 5, 6, 7, 8]) (.seq (.ite (.s 8) (.skip) (.exit 0)) (.seq (.block 1 (.seq (R [c0 9 (.ixp 2 (.s 5) (.s 7)), c0 10 (.ld true 2 (.s 9)), c0 4 (.new false (.c (.agg [ki .i64 0, kn 3]))), cn (.st 2 (.s 4) (.s 10))] [0, 4, 5, 6, 7]) (.seq (RD [cd (some 11) false none (.ld true 2 (.s 4)) false false [4], cd (some 12) false none (.mv (.s 0)) false false [0], cd (some 13) false none (.ixp 2 (.s 12) (.c (ki .i64 0))) false false [12], cd (some 14) false none (.ld true 2 (.s 13)) false false [13], cd (some 15) true none (.call none (.c (kf 53)) [(.s 11), (.s 14)]) false false [11, 14], cd (some 16) true none (.un .not (.s 15)) false false [15]] [0, 4, 5, 6, 7, 16] []) (.ite (.s 16) (.seq (R [cb 2 (.tk (.c (kb false)))] [2, 4]) (.ret)) (.skip))))) (R [c0 17 (.bin .add .any (.s 7) (.c (ki .i64 1))), c0 7 (.mv (.s 17))] [0, 4, 5, 6, 7]))))))) (.seq (R [c0 18 (.mv (.s 0)), c0 19 (.len 1 (.s 18)), cb 20 (.bin .gtr .any (.s 19) (.c (ki .i64 0))), cb 2 (.tk (.s 20))] [2, 4]) (.ret)))
theorem fun68 : Fun Try.prog cfg 68 21 cd68 [.s 2] := ⟨rfl, Try.f68, _, Try.func68, rfl, rfl, by kernel_rfl, by kernel_rfl⟩
@[go_sem] theorem ok68 : calleeOK Try.prog 68 = true := by kernel_rfl
@[go_sem] theorem ex68 : (cfg.ext 68).isSome = false := rfl
variable {h : DHeap}
abbrev attL (a : Att) : List DV := [vi a.seq, .list false 3 (idr a.deps)]
abbrev attD (a : Att) : DV := .agg [vi a.seq, .list false 3 (idr a.deps)]
def ats (l : List Att) : List (List DV) := l.map fun a => [vi a.seq, .list false 3 (idr a.deps)]
@[go_sem] theorem ats_len (l : List Att) : (ats l).length = l.length := by simp [ats]
@[go_sem] theorem ats_snoc (l : List Att) (a : Att) : ats l ++ [[.sc (.int .i64 a.seq), .list false 3 (idr a.deps)]] = ats (l ++ [a]) := by simp [ats]
@[go_sem high] theorem idxP_ats (l : List Att) (i : Int) (N : List DV → Prop) : IdxP (ats l) i N = IdxP l i fun a => N [vi a.seq, .list false 3 (idr a.deps)] := idxP_map
theorem free_ats : ∀ l : List Att, heapFree.alls (ats l) = true
  | [] => rfl
  | s :: l => by
    have := free_ats l
    simp only [ats] at this
    simp only [ats, List.map_cons, heapFree.alls, heapFree.all, heapFree, this, free_idr, Bool.and_self]
abbrev knoL (x : Kno) : List DV := [vi x.id.e, vi x.id.n, vi x.id.k, vi x.cmd.client, vi x.cmd.seq, vi x.cmd.op, vs x.cmd.path, vs x.cmd.value, vi x.cmd.version, vi x.cmd.a, vi x.cmd.b, vi x.att.seq, .list false 3 (idr x.att.deps)]
abbrev knoD (x : Kno) : DV := .agg [vi x.id.e, vi x.id.n, vi x.id.k, vi x.cmd.client, vi x.cmd.seq, vi x.cmd.op, vs x.cmd.path, vs x.cmd.value, vi x.cmd.version, vi x.cmd.a, vi x.cmd.b, vi x.att.seq, .list false 3 (idr x.att.deps)]
def kns (l : List Kno) : List (List DV) := l.map fun x => [vi x.id.e, vi x.id.n, vi x.id.k, vi x.cmd.client, vi x.cmd.seq, vi x.cmd.op, vs x.cmd.path, vs x.cmd.value, vi x.cmd.version, vi x.cmd.a, vi x.cmd.b, vi x.att.seq, .list false 3 (idr x.att.deps)]
@[go_sem] theorem kns_len (l : List Kno) : (kns l).length = l.length := by simp [kns]
@[go_sem high] theorem idxP_kns (l : List Kno) (i : Int) (N : List DV → Prop) : IdxP (kns l) i N = IdxP l i fun x => N [vi x.id.e, vi x.id.n, vi x.id.k, vi x.cmd.client, vi x.cmd.seq, vi x.cmd.op, vs x.cmd.path, vs x.cmd.value, vi x.cmd.version, vi x.cmd.a, vi x.cmd.b, vi x.att.seq, .list false 3 (idr x.att.deps)] := idxP_map
theorem free_kns : ∀ l : List Kno, heapFree.alls (kns l) = true
  | [] => rfl
  | s :: l => by
    have := free_kns l
    simp only [kns] at this
    simp only [kns, List.map_cons, heapFree.alls, heapFree.all, heapFree, this, free_idr, Bool.and_self]
theorem mmI_max (a b : Int) : mmI true a b = max a b := by unfold mmI; simp only [if_true]; split <;> omega
def depOK (id x : Id) : Bool := decide (x ≠ id) && decide (x.e = id.e) && validI x
theorem validA_eq (id : Id) (a : Att) : validA id a = (a.deps.all (depOK id) && (decide (0 ≤ a.seq) && decide (a.seq ≤ 1099511627776)) && decide (a.deps.length ≤ 1024) && rightI a.deps) := rfl
theorem merge_lim (a b : Att) (hl : a.deps.length + b.deps.length ≤ 1048576) : lim Try.prog cfg 69 [attD a, attD b] h = some (attD (mergeP a b), h) := by
  refine lim_funp fun69 rfl (by simp) (by simp [heapFree, heapFree.all, free_idr]) (by simp [heapFree, heapFree.all, free_idr]) ?_
  delta cd69
  have e1 := unionD_lim (h := []) false false a.deps b.deps hl
  simp -implicitDefEqProofs -dsimp only [go_sem, wp_RD, e1, mmI_max]
  rfl
theorem fold_len (f : Att) (l : List Att) (k B : Nat) (h : ∀ a ∈ l, a.deps.length ≤ B) : ((l.take k).foldl mergeP f).deps.length ≤ f.deps.length + k * B := by
  induction k generalizing f l with
  | zero => simp
  | succ k ih =>
    cases l with
    | nil => simp
    | cons a l =>
      rw [List.take_succ_cons, List.foldl_cons]
      have h1 := ih (mergeP f a) l fun x hx => h x (List.mem_cons_of_mem _ hx)
      have h2 := merge_len f a
      have h3 := h a List.mem_cons_self
      rw [Nat.succ_mul]
      omega
theorem foldA_lim (own : Bool) (f : Att) (l : List Att) (hf : f.deps.length ≤ 1000) (hl : l.length ≤ 500) (hs : ∀ a ∈ l, a.deps.length ≤ 1000) : lim Try.prog cfg 58 [attD f, .list own 2 (ats l)] h = some (attD (l.foldl mergeP f), h) := by
  refine lim_funp fun58 rfl (by simp) (by simp [heapFree, heapFree.all, free_idr, free_ats]) (by simp [heapFree, heapFree.all, free_idr]) ?_
  delta cd58
  simp -implicitDefEqProofs -dsimp only [go_sem]
  refine wp_for (σ := Nat × DV) (fun k => [(2, .box (attL ((l.take k.1).foldl mergeP f))), (4, .box [vi 0, .list false 3 []]), (6, k.2), (7, .list false 2 (ats l)), (8, vi (l.length : Nat)), (9, vi (k.1 : Nat))]) (fun _ => []) (fun k => l.length - k.1) (fun k => k.1 ≤ l.length) (0, .junk) (by simp) rfl rfl ?_
  rintro ⟨k, y⟩ hk N hN
  dsimp only at hk
  by_cases hlt : k < l.length
  · have h1 : ((k : Int) < (l.length : Int)) := by omega
    have e0 := fold_len f l k 1000 hs
    have e1 := merge_lim (h := []) ((l.take k).foldl mergeP f) l[k] (by have := hs _ (List.getElem_mem hlt); omega)
    have e2 : mergeP ((l.take k).foldl mergeP f) l[k] = (l.take (k + 1)).foldl mergeP f := by rw [List.take_succ_eq_append_getElem hlt, List.foldl_append]; rfl
    rw [e2] at e1
    simp -implicitDefEqProofs -dsimp only [go_sem, h1, hlt, e1]
    refine hN (k + 1, .box (attL l[k])) _ (by dsimp only; omega) (by dsimp only; omega) ?_
    simp -implicitDefEqProofs -dsimp only [go_sem, wrap_succ (show k < 9223372036854775807 by omega)]
  · have h1 : ¬ ((k : Int) < (l.length : Int)) := by omega
    have hkl : l.take k = l := List.take_of_length_le (by omega)
    rw [hkl]
    simp -implicitDefEqProofs -dsimp only [go_sem, h1]
theorem allA_lim (own : Bool) (l : List Att) (hl : l.length ≤ 500) (hs : ∀ a ∈ l, a.deps.length ≤ 1000) : lim Try.prog cfg 41 [.list own 2 (ats l)] h = some (attD (allA l), h) := by
  refine lim_funp fun41 rfl (by simp) (by simp [heapFree, free_ats]) (by simp [heapFree, heapFree.all, free_idr]) ?_
  delta cd41
  by_cases hz : l.length = 0
  · have : l = [] := List.eq_nil_of_length_eq_zero hz
    subst this
    simp -implicitDefEqProofs -dsimp only [go_sem]
    rfl
  · have hlt : 0 < l.length := by omega
    have e1 : lim Try.prog cfg 58 [.agg [vi l[0].seq, .list false 3 []], .list false 2 (ats l)] [] = some (attD (l.foldl mergeP ⟨l[0].seq, []⟩), []) := foldA_lim (h := []) false ⟨l[0].seq, []⟩ l (by simp) hl hs
    have e2 : l.foldl mergeP ⟨l[0].seq, []⟩ = allA l := by
      cases l with
      | nil => simp at hlt
      | cons a l => rfl
    rw [e2] at e1
    have h0 : ¬ ((l.length : Nat) : Int) = 0 := by omega
    simp -implicitDefEqProofs -dsimp only [go_sem, h0, hlt, e1]
theorem sameA_lim (a b : Att) (h1 : a.deps.length ≤ 1048576) (h2 : b.deps.length ≤ 1048576) : lim Try.prog cfg 53 [attD a, attD b] h = some (vb (sameA a b), h) := by
  refine lim_funp fun53 rfl (by simp) (by simp [heapFree, heapFree.all, free_idr]) rfl ?_
  delta cd53
  have e1 := sameD_lim (h := []) false false a.deps b.deps h1 h2
  unfold sameA
  by_cases c1 : a.seq = b.seq
  · cases c2 : sameP a.deps b.deps <;> rw [c2] at e1 <;> simp -implicitDefEqProofs -dsimp only [go_sem, eq_true c1, e1]
  · simp -implicitDefEqProofs -dsimp only [go_sem, eq_false c1, e1]
    rfl
theorem agree_iff (l : List Att) (hl : 0 < l.length) : (∀ j (hj : j < l.length), sameA l[j] l[0] = true) ↔ ∀ a ∈ l, sameA a l[0] = true :=
  ⟨fun h a ha => by obtain ⟨j, hj, rfl⟩ := List.getElem_of_mem ha; exact h j hj, fun h j hj => h _ (List.getElem_mem hj)⟩
/-- Are all the same? -/
def agreeP (l : List Att) : Bool := match l with
  | [] => false
  | a :: l => (a :: l).all fun b => sameA b a
theorem agreeP_at (l : List Att) (hl : 0 < l.length) : agreeP l = l.all fun b => sameA b l[0] := by
  cases l with
  | nil => simp at hl
  | cons a l => rfl
theorem agree_lim (own : Bool) (l : List Att) (hl : l.length ≤ 1000000) (hs : ∀ a ∈ l, a.deps.length ≤ 1048576) : lim Try.prog cfg 68 [.list own 2 (ats l)] h = some (vb (agreeP l), h) := by
  refine lim_funp fun68 rfl (by simp) (by simp [heapFree, free_ats]) rfl ?_
  delta cd68
  simp -implicitDefEqProofs -dsimp only [go_sem]
  refine wp_for (σ := Nat × DV) (fun k => [(0, .list false 2 (ats l)), (4, k.2), (5, .list false 2 (ats l)), (6, vi (l.length : Nat)), (7, vi (k.1 : Nat))]) (fun _ => []) (fun k => l.length - k.1) (fun k => k.1 ≤ l.length ∧ ∀ j (hj : j < l.length), j < k.1 → sameA l[j] (l[0]'(by omega)) = true) (0, .junk) (by simp) rfl rfl ?_
  rintro ⟨k, y⟩ ⟨hk, hj⟩ N hN
  dsimp only at hk hj
  by_cases hlt : k < l.length
  · have h0 : 0 < l.length := by omega
    have h1 : ((k : Int) < (l.length : Int)) := by omega
    have e1 := sameA_lim (h := []) l[k] l[0] (hs _ (List.getElem_mem hlt)) (hs _ (List.getElem_mem h0))
    cases c1 : sameA l[k] l[0] with
    | true =>
      rw [c1] at e1
      simp -implicitDefEqProofs -dsimp only [go_sem, wp_RD, h0, h1, hlt, e1]
      refine hN (k + 1, .box (attL l[k])) _ (by dsimp only; omega) ⟨by dsimp only; omega, fun j hj1 hj2 => ?_⟩ ?_
      · by_cases e : j = k
        · subst e; exact c1
        · exact hj j hj1 (by dsimp only at hj2; omega)
      · simp -implicitDefEqProofs -dsimp only [go_sem, wrap_succ (show k < 9223372036854775807 by omega)]
    | false =>
      rw [c1] at e1
      have hr : agreeP l = false := by
        rw [agreeP_at l h0, Bool.eq_false_iff]
        intro q
        rw [List.all_eq_true] at q
        rw [q _ (List.getElem_mem hlt)] at c1
        cases c1
      rw [hr]
      simp -implicitDefEqProofs -dsimp only [go_sem, wp_RD, h0, h1, hlt, e1]
  · have h1 : ¬ ((k : Int) < (l.length : Int)) := by omega
    by_cases h0 : 0 < l.length
    · have hr : agreeP l = true := by
        rw [agreeP_at l h0, List.all_eq_true]
        exact (agree_iff l h0).1 fun j hj1 => hj j hj1 (by omega)
      have h2 : (0 : Int) < (l.length : Int) := by omega
      rw [hr]
      simp -implicitDefEqProofs -dsimp only [go_sem, h1, h2]
    · have hr : agreeP l = false := by
        cases l with
        | nil => rfl
        | cons a l => simp at h0
      have h2 : ¬ (0 : Int) < (l.length : Int) := by omega
      rw [hr]
      simp -implicitDefEqProofs -dsimp only [go_sem, h1, h2]
/-- How far 'Local' is. -/
def locN (l : List Kno) (id : Id) (c : Cmd) : Int := (l.filter (matters id c)).foldl (fun n x => max n x.att.seq) 0
def locD (l : List Kno) (id : Id) (c : Cmd) : List Id := (l.filter (matters id c)).map (·.id)
theorem local_eq (l : List Kno) (id : Id) (c : Cmd) : localP l id c = ⟨locN l id c + 1, cleanP (locD l id c)⟩ := rfl
theorem loc_snoc (l : List Kno) (x : Kno) (id : Id) (c : Cmd) : locN (l ++ [x]) id c = (if matters id c x then max (locN l id c) x.att.seq else locN l id c) ∧ locD (l ++ [x]) id c = (if matters id c x then locD l id c ++ [x.id] else locD l id c) := by
  unfold locN locD
  rw [List.filter_append]
  cases hm : matters id c x <;> simp [hm]
theorem locD_len (l : List Kno) (id : Id) (c : Cmd) : (locD l id c).length ≤ l.length := by
  unfold locD; rw [List.length_map]; exact List.length_filter_le ..
theorem locN_le (l : List Kno) (id : Id) (c : Cmd) (B : Int) (hB : 0 ≤ B) (h : ∀ x ∈ l, x.att.seq ≤ B) : locN l id c ≤ B := foldl_max_le _ 0 B hB fun x hx => h x (List.mem_filter.1 hx).1
theorem locN_ge (l : List Kno) (id : Id) (c : Cmd) : 0 ≤ locN l id c := (foldl_max_ge _ 0).1
end Go.DS

/-
  Ballots, instances, messages, books: plain.
-/
namespace Go.DS
open Go
set_option linter.unusedVariables false
/-- A try. -/
structure Bal where
  no : Int
  node : Int
  deriving DecidableEq
/-- What is known of an instance. -/
structure Ins where
  st : Int
  pro : Bal
  vot : Bal
  cmd : Cmd
  att : Att
/-- Who votes. -/
structure Con where
  epoch : Int
  nodes : List Int
/-- A path of a directory; what a client was answered. -/
structure PEnt where
  path : Str
  value : Str
  ver : Int
structure PSes where
  client : Int
  seq : Int
  err : Int
  value : Str
  ver : Int
  names : List Str
structure Snp where
  con : Con
  paths : List PEnt
  sess : List PSes
structure Mes where
  kind : Int
  frm : Int
  to : Int
  id : Id
  bal : Bal
  ins : Ins
  snap : Snp
def cmd0 : Cmd := ⟨0, 0, 0, [], [], 0, 0, 0⟩
def bal0 : Bal := ⟨0, 0⟩
def att0 : Att := ⟨0, []⟩
def ins0 : Ins := ⟨0, ⟨0, 0⟩, ⟨0, 0⟩, ⟨0, 0, 0, [], [], 0, 0, 0⟩, ⟨0, []⟩⟩
def snp0 : Snp := ⟨⟨0, []⟩, [], []⟩
def lessB (a b : Bal) : Bool := if a.no = b.no then decide (a.node < b.node) else decide (a.no < b.no)
theorem lessB_iff {a b : Bal} : lessB a b = true ↔ a.no < b.no ∨ a.no = b.no ∧ a.node < b.node := by
  unfold lessB
  split
  · rename_i h; simp [h]
  · rename_i h; simp [h]
theorem lessB_irrefl (a : Bal) : lessB a a = false := by simp [lessB]
theorem lessB_asymm {a b : Bal} (h : lessB a b = true) : lessB b a = false := by
  rw [Bool.eq_false_iff]
  intro h2
  rw [lessB_iff] at h h2
  omega
def balB (b : Bal) : Bool := (decide (0 ≤ b.no) && decide (b.no ≤ 1099511627776)) && (decide (0 ≤ b.node) && decide (b.node ≤ 31))
/-- What a member knows. -/
structure Bk where
  node : Int
  con : Con
  m : List (Id × Ins)
def getB (b : Bk) (id : Id) : Ins := (aget id b.m).getD ins0
def setB (b : Bk) (id : Id) (x : Ins) : Bk := { b with m := aset id x b.m }
def idsB (b : Bk) : List Id := sortD (keys b.m)
def knoB (b : Bk) (id : Id) : Kno := ⟨id, (getB b id).cmd, (getB b id).att⟩
def knownB (b : Bk) : List Kno := ((idsB b).filter fun id => decide (1 ≤ (getB b id).st)).map (knoB b)
def memB (b : Bk) (n : Int) : Bool := decide (n ∈ b.con.nodes)
def rightB (b : Bk) (m : Mes) : Bool :=
  (decide (m.to = b.node) && memB b m.frm && memB b m.to && memB b m.id.n) && validI m.id && decide (m.id.e = b.con.epoch) && balB m.bal && balB m.ins.vot && validA m.id m.ins.att
def ansB (b : Bk) (m : Mes) (kind : Int) (x : Ins) : Mes := ⟨kind, b.node, m.frm, m.id, m.bal, x, snp0⟩
def keepB (b : Bk) (m : Mes) (kind : Int) (x : Ins) : List Mes × Bk := ([ansB b m kind x], setB b m.id x)
def preB (b : Bk) (m : Mes) (x : Ins) : List Mes × Bk :=
  if 1 ≤ x.st ∧ x.vot = m.bal then (if x.st ≠ 1 then ([], b) else ([ansB b m 1 x], b))
  else keepB b m 1 ⟨1, m.bal, m.bal, m.ins.cmd, mergeP m.ins.att (localP (knownB b) m.id m.ins.cmd)⟩
def acceptB (b : Bk) (m : Mes) (x : Ins) : List Mes × Bk := keepB b m 3 ⟨2, m.bal, m.bal, m.ins.cmd, m.ins.att⟩
def prepareB (b : Bk) (m : Mes) (x : Ins) : List Mes × Bk := keepB b m 6 { x with pro := m.bal }
def voteB (k : Int) : Bool := decide (k = 0) || decide (k = 2) || decide (k = 5)
def hearB (b : Bk) (m : Mes) : List Mes × Bk :=
  if rightB b m = false then ([], b)
  else if m.kind = 4 ∧ (getB b m.id).st ≠ 3 then ([], setB b m.id ⟨3, (getB b m.id).pro, m.ins.vot, m.ins.cmd, m.ins.att⟩)
  else if voteB m.kind = false then ([], b)
  else if (getB b m.id).st = 3 then ([ansB b m 4 (getB b m.id)], b)
  else if lessB m.bal (getB b m.id).pro = true then ([ansB b { m with bal := (getB b m.id).pro } 7 ins0], b)
  else if m.kind = 0 then preB b m (getB b m.id)
  else if m.kind = 2 then acceptB b m (getB b m.id)
  else prepareB b m (getB b m.id)
def hearAll (b : Bk) (l : List Mes) : Bk := l.foldl (fun b m => (hearB b m).2) b
theorem hearAll_snoc (b : Bk) (l : List Mes) (m : Mes) : hearAll b (l ++ [m]) = (hearB (hearAll b l) m).2 := by simp [hearAll]
theorem get_set (b : Bk) (id j : Id) (x : Ins) : getB (setB b id x) j = if j = id then x else getB b j := by
  unfold getB setB
  rw [aget_set]
  split <;> rfl
/-- What is kept of an entry, and of a book. -/
structure EntOK (n : Nat) (ep : Int) (e : Id × Ins) : Prop where
  path : e.2.cmd.path.length ≤ 300
  deps : e.2.att.deps.length ≤ 60 + n
  seq0 : 0 ≤ e.2.att.seq
  seq1 : e.2.att.seq ≤ 1099511627776 + n
  ep : e.1.e = ep
  st0 : 0 ≤ e.2.st
  st3 : e.2.st ≤ 3
  vot : e.2.st ≠ 3 → lessB e.2.pro e.2.vot = false
theorem EntOK.mono {n n' : Nat} {ep : Int} {e : Id × Ins} (h : EntOK n ep e) (hn : n ≤ n') : EntOK n' ep e :=
  ⟨h.path, by have := h.deps; omega, h.seq0, by have := h.seq1; omega, h.ep, h.st0, h.st3, h.vot⟩
structure BkOK (n : Nat) (b : Bk) : Prop where
  nodup : (keys b.m).Nodup
  len : b.m.length ≤ n
  each : ∀ e ∈ b.m, EntOK n b.con.epoch e
/-- A message that is looked at. -/
structure MesOK (m : Mes) : Prop where
  path : m.ins.cmd.path.length ≤ 300
  deps : m.ins.att.deps.length ≤ 60
theorem bkOK_new (node : Int) (c : Con) (n : Nat) : BkOK n ⟨node, c, []⟩ := ⟨by simp [keys], Nat.zero_le _, by simp⟩
theorem BkOK.mono {n n' : Nat} {b : Bk} (h : BkOK n b) (hn : n ≤ n') : BkOK n' b :=
  ⟨h.nodup, Nat.le_trans h.len hn, fun e he => (h.each e he).mono hn⟩
theorem mem_aset {κ α : Type} [DecidableEq κ] {k : κ} {v : α} {es : List (κ × α)} {e : κ × α} (h : e ∈ aset k v es) : e = (k, v) ∨ e ∈ es := by
  induction es with
  | nil => simp only [aset, List.mem_singleton] at h; exact .inl h
  | cons a es ih =>
    simp only [aset] at h
    split at h
    · rcases List.mem_cons.1 h with rfl | h
      · exact .inl rfl
      · exact .inr (List.mem_cons_of_mem _ h)
    · rcases List.mem_cons.1 h with rfl | h
      · exact .inr List.mem_cons_self
      · rcases ih h with h | h
        · exact .inl h
        · exact .inr (List.mem_cons_of_mem _ h)
theorem BkOK.set {n : Nat} {b : Bk} (h : BkOK n b) {id : Id} {x : Ins} (hx : EntOK (n + 1) b.con.epoch (id, x)) : BkOK (n + 1) (setB b id x) := by
  refine ⟨nodup_set h.nodup, ?_, fun e he => ?_⟩
  · show (aset id x b.m).length ≤ _
    rw [len_set]
    have := h.len
    split <;> omega
  · rcases mem_aset he with rfl | he
    · exact hx
    · exact (h.mono (Nat.le_succ n)).each e he
theorem get_of {n : Nat} {b : Bk} (h : BkOK n b) (id : Id) : (aget id b.m = none ∧ getB b id = ins0) ∨ (id, getB b id) ∈ b.m := by
  unfold getB
  cases hg : aget id b.m with
  | none => exact .inl ⟨rfl, rfl⟩
  | some x => exact .inr (aget_mem hg)
theorem get_ok {n : Nat} {b : Bk} (h : BkOK n b) {id : Id} (he : id.e = b.con.epoch) : EntOK n b.con.epoch (id, getB b id) := by
  rcases get_of h id with ⟨_, e⟩ | e
  · rw [e]; exact ⟨by simp [ins0], by simp [ins0], by simp [ins0], by simp [ins0]; omega, he, by simp [ins0], by simp [ins0], fun _ => rfl⟩
  · exact h.each _ e
theorem get_small {n : Nat} {b : Bk} (h : BkOK n b) (id : Id) : (getB b id).att.deps.length ≤ 60 + n ∧ (getB b id).cmd.path.length ≤ 300 := by
  rcases get_of h id with ⟨_, e⟩ | e
  · rw [e]; simp [ins0]
  · exact ⟨(h.each _ e).deps, (h.each _ e).path⟩
theorem get_st {n : Nat} {b : Bk} (h : BkOK n b) (id : Id) : 0 ≤ (getB b id).st ∧ (getB b id).st ≤ 3 ∧ ((getB b id).st ≠ 3 → lessB (getB b id).pro (getB b id).vot = false) := by
  rcases get_of h id with ⟨_, e⟩ | e
  · rw [e]; exact ⟨by simp [ins0], by simp [ins0], fun _ => rfl⟩
  · exact ⟨(h.each _ e).st0, (h.each _ e).st3, (h.each _ e).vot⟩
theorem idsB_len (b : Bk) : (idsB b).length = b.m.length := by unfold idsB; rw [sortD_len, keys_len]
theorem idsB_mem {b : Bk} {id : Id} : id ∈ idsB b ↔ id ∈ keys b.m := sortD_mem
theorem knownB_len (b : Bk) : (knownB b).length ≤ b.m.length := by
  unfold knownB
  rw [List.length_map, ← idsB_len b]
  exact List.length_filter_le ..
theorem knownB_ok {n : Nat} {b : Bk} (h : BkOK n b) : ∀ k ∈ knownB b, ∃ x, EntOK n b.con.epoch (k.id, x) ∧ k.cmd = x.cmd ∧ k.att = x.att := by
  intro k hk
  obtain ⟨id, hid, rfl⟩ := List.mem_map.1 hk
  have h1 := idsB_mem.1 (List.mem_filter.1 hid).1
  rcases get_of h id with ⟨e, _⟩ | e
  · exact absurd h1 (aget_none.1 e)
  · exact ⟨_, h.each _ e, rfl, rfl⟩
theorem local_ok {n : Nat} {b : Bk} (h : BkOK n b) (id : Id) (c : Cmd) : (localP (knownB b) id c).deps.length ≤ n ∧ 1 ≤ (localP (knownB b) id c).seq ∧ (localP (knownB b) id c).seq ≤ 1099511627776 + (n + 1 : Nat) := by
  have e : localP (knownB b) id c = ⟨((knownB b).filter (matters id c)).foldl (fun n x => max n x.att.seq) 0 + 1, cleanP (((knownB b).filter (matters id c)).map (·.id))⟩ := rfl
  have h1 := clean_len (((knownB b).filter (matters id c)).map (·.id))
  have h2 := List.length_filter_le (matters id c) (knownB b)
  have h3 := knownB_len b
  have h4 := h.len
  have h5 := (foldl_max_ge ((knownB b).filter (matters id c)) 0).1
  have h6 := foldl_max_le ((knownB b).filter (matters id c)) 0 (1099511627776 + n) (by omega) fun x hx => by
    obtain ⟨y, hy, _, e⟩ := knownB_ok h x (List.mem_filter.1 hx).1
    rw [e]; exact hy.seq1
  rw [List.length_map] at h1
  rw [e]
  dsimp only
  refine ⟨by omega, by omega, by omega⟩
theorem right_iff {b : Bk} {m : Mes} : rightB b m = true ↔ (m.to = b.node ∧ m.frm ∈ b.con.nodes ∧ m.to ∈ b.con.nodes ∧ m.id.n ∈ b.con.nodes) ∧ validI m.id = true ∧ m.id.e = b.con.epoch ∧ balB m.bal = true ∧ balB m.ins.vot = true ∧ validA m.id m.ins.att = true := by
  simp only [rightB, memB, Bool.and_eq_true, decide_eq_true_eq, and_assoc]
theorem hear_ok {n : Nat} {b : Bk} (h : BkOK n b) {m : Mes} (hm : MesOK m) : BkOK (n + 1) (hearB b m).2 := by
  have h' := h.mono (Nat.le_succ n)
  unfold hearB
  split
  · exact h'
  rename_i hr
  have hr : rightB b m = true := by simpa using hr
  obtain ⟨_, _, r3, _, _, r6⟩ := right_iff.1 hr
  obtain ⟨v1, v2, v3, v4⟩ := validA_iff.1 r6
  have h1 := hm.path
  have h2 := hm.deps
  split
  · exact h.set ⟨h1, by dsimp only; omega, v2.1, by dsimp only; omega, r3, by simp, by simp, fun e => (e rfl).elim⟩
  split
  · exact h'
  split
  · exact h'
  rename_i h3
  split
  · exact h'
  rename_i h4
  have h4 : lessB m.bal (getB b m.id).pro = false := by simpa using h4
  split
  · unfold preB
    split
    · split <;> exact h'
    · obtain ⟨l1, l2, l3⟩ := local_ok h m.id m.ins.cmd
      have l4 := merge_len m.ins.att (localP (knownB b) m.id m.ins.cmd)
      have l5 : (mergeP m.ins.att (localP (knownB b) m.id m.ins.cmd)).seq = max m.ins.att.seq (localP (knownB b) m.id m.ins.cmd).seq := rfl
      exact h.set ⟨h1, by dsimp only; omega, by dsimp only; omega, by dsimp only; omega, r3, by simp, by simp, fun _ => lessB_irrefl _⟩
  split
  · exact h.set ⟨h1, by dsimp only; omega, v2.1, by dsimp only; omega, r3, by simp, by simp, fun _ => lessB_irrefl _⟩
  · have g := (get_ok h r3).mono (Nat.le_succ n)
    refine h.set ⟨g.path, g.deps, g.seq0, g.seq1, r3, g.st0, g.st3, fun e => ?_⟩
    have g2 := g.vot e
    show lessB m.bal (getB b m.id).vot = false
    rw [Bool.eq_false_iff] at g2 h4 ⊢
    simp only [ne_eq, lessB_iff] at g2 h4 ⊢
    omega
theorem hear_con (b : Bk) (m : Mes) : (hearB b m).2.con = b.con ∧ (hearB b m).2.node = b.node := by
  unfold hearB preB acceptB prepareB keepB setB
  repeat' split
  all_goals exact ⟨rfl, rfl⟩
theorem hearAll_ok {b : Bk} {n : Nat} (h : BkOK n b) (l : List Mes) (hl : ∀ m ∈ l, MesOK m) : BkOK (n + l.length) (hearAll b l) := by
  induction l generalizing b n with
  | nil => exact h
  | cons m l ih =>
    have := ih (hear_ok h (hl m List.mem_cons_self)) fun x hx => hl x (List.mem_cons_of_mem _ hx)
    rw [List.length_cons, Nat.add_comm l.length 1, ← Nat.add_assoc]
    exact this
theorem hearAll_con (b : Bk) (l : List Mes) : (hearAll b l).con = b.con ∧ (hearAll b l).node = b.node := by
  induction l generalizing b with
  | nil => exact ⟨rfl, rfl⟩
  | cons m l ih =>
    obtain ⟨h1, h2⟩ := ih (hearB b m).2
    obtain ⟨h3, h4⟩ := hear_con b m
    exact ⟨h1.trans h3, h2.trans h4⟩
/-- What is heard of one instance is nothing to any other one. -/
theorem hear_other (b : Bk) (m : Mes) (j : Id) (h : j ≠ m.id) : getB (hearB b m).2 j = getB b j := by
  unfold hearB preB acceptB prepareB keepB
  repeat' split
  all_goals first | rfl | (rw [get_set, if_neg h])
theorem hear_len (b : Bk) (m : Mes) : (hearB b m).1.length ≤ 1 := by
  unfold hearB preB acceptB prepareB keepB
  repeat' split
  all_goals simp
theorem hear_wrong {b : Bk} {m : Mes} (h : rightB b m = false) : hearB b m = ([], b) := by unfold hearB; rw [if_pos h]
/-- What is asked again is answered again. -/
theorem hear_again (b : Bk) (m : Mes) : (hearB (hearB b m).2 m).1 = (hearB b m).1 ∧ getB (hearB (hearB b m).2 m).2 m.id = getB (hearB b m).2 m.id := by
  have hright : ∀ x, rightB (setB b m.id x) m = rightB b m := fun x => rfl
  by_cases c0 : rightB b m = false
  · rw [hear_wrong c0]
    rw [hear_wrong (b := b) c0]
    exact ⟨rfl, rfl⟩
  by_cases c1 : m.kind = 4 ∧ (getB b m.id).st ≠ 3
  · have e1 : hearB b m = ([], setB b m.id ⟨3, (getB b m.id).pro, m.ins.vot, m.ins.cmd, m.ins.att⟩) := by unfold hearB; rw [if_neg c0, if_pos c1]
    rw [e1]
    dsimp only
    have e2 : hearB (setB b m.id ⟨3, (getB b m.id).pro, m.ins.vot, m.ins.cmd, m.ins.att⟩) m = ([], setB b m.id ⟨3, (getB b m.id).pro, m.ins.vot, m.ins.cmd, m.ins.att⟩) := by
      have hv : voteB m.kind = false := by rw [c1.1]; rfl
      unfold hearB
      rw [hright, if_neg c0, if_neg (by rw [get_set, if_pos rfl]; simp), if_pos hv]
    rw [e2]
    exact ⟨rfl, rfl⟩
  by_cases c2 : voteB m.kind = false
  · have e1 : hearB b m = ([], b) := by unfold hearB; rw [if_neg c0, if_neg c1, if_pos c2]
    rw [e1]; dsimp only; rw [e1]; exact ⟨rfl, rfl⟩
  by_cases c3 : (getB b m.id).st = 3
  · have e1 : hearB b m = ([ansB b m 4 (getB b m.id)], b) := by unfold hearB; rw [if_neg c0, if_neg c1, if_neg c2, if_pos c3]
    rw [e1]; dsimp only; rw [e1]; exact ⟨rfl, rfl⟩
  by_cases c4 : lessB m.bal (getB b m.id).pro = true
  · have e1 : hearB b m = ([ansB b { m with bal := (getB b m.id).pro } 7 ins0], b) := by unfold hearB; rw [if_neg c0, if_neg c1, if_neg c2, if_neg c3, if_pos c4]
    rw [e1]; dsimp only; rw [e1]; exact ⟨rfl, rfl⟩
  have step : ∀ x : Ins, x.st ≠ 3 → x.pro = m.bal → hearB (setB b m.id x) m = if m.kind = 0 then preB (setB b m.id x) m x else if m.kind = 2 then acceptB (setB b m.id x) m x else prepareB (setB b m.id x) m x := fun x h1 h2 => by
    have g : getB (setB b m.id x) m.id = x := by rw [get_set, if_pos rfl]
    have n4 : ¬ (m.kind = 4 ∧ x.st ≠ 3) := by
      rintro ⟨e, _⟩
      rw [e] at c2
      exact c2 rfl
    unfold hearB
    rw [hright, if_neg c0, g, if_neg n4, if_neg c2, if_neg h1, h2, lessB_irrefl]
    simp only [Bool.false_eq_true, if_false]
  have e0 : hearB b m = if m.kind = 0 then preB b m (getB b m.id) else if m.kind = 2 then acceptB b m (getB b m.id) else prepareB b m (getB b m.id) := by
    unfold hearB; rw [if_neg c0, if_neg c1, if_neg c2, if_neg c3, if_neg c4]
  by_cases c5 : m.kind = 0
  · rw [if_pos c5] at e0
    by_cases c6 : 1 ≤ (getB b m.id).st ∧ (getB b m.id).vot = m.bal
    · have e1 : (hearB b m).2 = b := by rw [e0]; unfold preB; rw [if_pos c6]; split <;> rfl
      rw [e1]
      exact ⟨rfl, by rw [e1]⟩
    · generalize hz : mergeP m.ins.att (localP (knownB b) m.id m.ins.cmd) = z
      have e1 : hearB b m = keepB b m 1 ⟨1, m.bal, m.bal, m.ins.cmd, z⟩ := by rw [e0]; unfold preB; rw [if_neg c6, hz]
      have e2 := step ⟨1, m.bal, m.bal, m.ins.cmd, z⟩ (by simp) rfl
      rw [if_pos c5] at e2
      have e3 : preB (setB b m.id ⟨1, m.bal, m.bal, m.ins.cmd, z⟩) m ⟨1, m.bal, m.bal, m.ins.cmd, z⟩ = ([ansB b m 1 ⟨1, m.bal, m.bal, m.ins.cmd, z⟩], setB b m.id ⟨1, m.bal, m.bal, m.ins.cmd, z⟩) := by
        unfold preB
        rw [if_pos ⟨by simp, rfl⟩, if_neg (by simp)]
        rfl
      rw [e3] at e2
      rw [e1]
      show (hearB (setB b m.id _) m).1 = _ ∧ getB (hearB (setB b m.id _) m).2 _ = _
      rw [e2]
      exact ⟨rfl, rfl⟩
  · rw [if_neg c5] at e0
    by_cases c6 : m.kind = 2
    · rw [if_pos c6] at e0
      have e2 := step ⟨2, m.bal, m.bal, m.ins.cmd, m.ins.att⟩ (by simp) rfl
      rw [if_neg c5, if_pos c6] at e2
      rw [e0]
      show (hearB (setB b m.id _) m).1 = _ ∧ getB (hearB (setB b m.id _) m).2 _ = _
      rw [e2]
      refine ⟨rfl, ?_⟩
      show getB (setB (setB b m.id _) m.id _) m.id = getB (setB b m.id _) m.id
      rw [get_set, get_set, if_pos rfl, if_pos rfl]
    · rw [if_neg c6] at e0
      have e2 := step { getB b m.id with pro := m.bal } c3 rfl
      rw [if_neg c5, if_neg c6] at e2
      rw [e0]
      show (hearB (setB b m.id _) m).1 = _ ∧ getB (hearB (setB b m.id _) m).2 _ = _
      rw [e2]
      refine ⟨rfl, ?_⟩
      show getB (setB (setB b m.id _) m.id _) m.id = getB (setB b m.id _) m.id
      rw [get_set, get_set, if_pos rfl, if_pos rfl]
end Go.DS

/-
  Books: what the laws say, plain.
-/
namespace Go.DS
open Go
set_option linter.unusedVariables false
/-- What hearing comes to, case by case. -/
theorem hear_cases (b : Bk) (m : Mes) : (hearB b m = ([], b)) ∨
    (rightB b m = true ∧ (
      (m.kind = 4 ∧ (getB b m.id).st ≠ 3 ∧ hearB b m = ([], setB b m.id ⟨3, (getB b m.id).pro, m.ins.vot, m.ins.cmd, m.ins.att⟩)) ∨
      (voteB m.kind = true ∧ (
        ((getB b m.id).st = 3 ∧ hearB b m = ([ansB b m 4 (getB b m.id)], b)) ∨
        ((getB b m.id).st ≠ 3 ∧ (
          (lessB m.bal (getB b m.id).pro = true ∧ hearB b m = ([ansB b { m with bal := (getB b m.id).pro } 7 ins0], b)) ∨
          (lessB m.bal (getB b m.id).pro = false ∧ (
            (m.kind = 0 ∧ 1 ≤ (getB b m.id).st ∧ (getB b m.id).vot = m.bal ∧ hearB b m = ([ansB b m 1 (getB b m.id)], b)) ∨
            (m.kind = 0 ∧ ¬ (1 ≤ (getB b m.id).st ∧ (getB b m.id).vot = m.bal) ∧ hearB b m = keepB b m 1 ⟨1, m.bal, m.bal, m.ins.cmd, mergeP m.ins.att (localP (knownB b) m.id m.ins.cmd)⟩) ∨
            (m.kind = 2 ∧ hearB b m = keepB b m 3 ⟨2, m.bal, m.bal, m.ins.cmd, m.ins.att⟩) ∨
            (m.kind = 5 ∧ hearB b m = keepB b m 6 { getB b m.id with pro := m.bal }))))))))) := by
  by_cases c0 : rightB b m = false
  · exact .inl (hear_wrong c0)
  have c0' : rightB b m = true := by simpa using c0
  by_cases c1 : m.kind = 4 ∧ (getB b m.id).st ≠ 3
  · exact .inr ⟨c0', .inl ⟨c1.1, c1.2, by unfold hearB; rw [if_neg c0, if_pos c1]⟩⟩
  by_cases c2 : voteB m.kind = false
  · exact .inl (by unfold hearB; rw [if_neg c0, if_neg c1, if_pos c2])
  have c2' : voteB m.kind = true := by simpa using c2
  by_cases c3 : (getB b m.id).st = 3
  · exact .inr ⟨c0', .inr ⟨c2', .inl ⟨c3, by unfold hearB; rw [if_neg c0, if_neg c1, if_neg c2, if_pos c3]⟩⟩⟩
  by_cases c4 : lessB m.bal (getB b m.id).pro = true
  · exact .inr ⟨c0', .inr ⟨c2', .inr ⟨c3, .inl ⟨c4, by unfold hearB; rw [if_neg c0, if_neg c1, if_neg c2, if_neg c3, if_pos c4]⟩⟩⟩⟩
  have c4' : lessB m.bal (getB b m.id).pro = false := by simpa using c4
  have e0 : hearB b m = if m.kind = 0 then preB b m (getB b m.id) else if m.kind = 2 then acceptB b m (getB b m.id) else prepareB b m (getB b m.id) := by
    unfold hearB; rw [if_neg c0, if_neg c1, if_neg c2, if_neg c3, if_neg c4]
  by_cases c5 : m.kind = 0
  · rw [if_pos c5] at e0
    by_cases c6 : 1 ≤ (getB b m.id).st ∧ (getB b m.id).vot = m.bal
    · by_cases c7 : (getB b m.id).st ≠ 1
      · exact .inl (by rw [e0]; unfold preB; rw [if_pos c6, if_pos c7])
      · exact .inr ⟨c0', .inr ⟨c2', .inr ⟨c3, .inr ⟨c4', .inl ⟨c5, c6.1, c6.2, by rw [e0]; unfold preB; rw [if_pos c6, if_neg c7]⟩⟩⟩⟩⟩
    · exact .inr ⟨c0', .inr ⟨c2', .inr ⟨c3, .inr ⟨c4', .inr (.inl ⟨c5, c6, by rw [e0]; unfold preB; rw [if_neg c6]⟩)⟩⟩⟩⟩
  · rw [if_neg c5] at e0
    by_cases c6 : m.kind = 2
    · rw [if_pos c6] at e0
      exact .inr ⟨c0', .inr ⟨c2', .inr ⟨c3, .inr ⟨c4', .inr (.inr (.inl ⟨c6, e0⟩))⟩⟩⟩⟩
    · rw [if_neg c6] at e0
      have c7 : m.kind = 5 := by
        simp only [voteB, Bool.or_eq_true, decide_eq_true_eq] at c2'
        omega
      exact .inr ⟨c0', .inr ⟨c2', .inr ⟨c3, .inr ⟨c4', .inr (.inr (.inr ⟨c7, e0⟩))⟩⟩⟩⟩
theorem get_keep (b : Bk) (m : Mes) (k : Int) (x : Ins) : getB (keepB b m k x).2 m.id = x := by
  show getB (setB b m.id x) m.id = x
  rw [get_set, if_pos rfl]
/-- A promise never falls, what was decided stays. -/
theorem hear_rises {n : Nat} {b : Bk} (h : BkOK n b) (m : Mes) :
    lessB (getB (hearB b m).2 m.id).pro (getB b m.id).pro = false ∧ ((getB b m.id).st = 3 → getB (hearB b m).2 m.id = getB b m.id) ∧
    ((getB (hearB b m).2 m.id).st < (getB b m.id).st → (getB b m.id).st ≠ 3 ∧ m.kind = 0) := by
  obtain ⟨s1, s2, s3⟩ := get_st h m.id
  rcases hear_cases b m with e | ⟨_, ⟨k1, k2, e⟩ | ⟨_, ⟨k1, e⟩ | ⟨k1, ⟨k2, e⟩ | ⟨k2, ⟨k3, k4, k5, e⟩ | ⟨k3, k4, e⟩ | ⟨k3, e⟩ | ⟨k3, e⟩⟩⟩⟩⟩ <;> rw [e]
  · exact ⟨lessB_irrefl _, fun _ => rfl, fun h => by dsimp only at h; omega⟩
  · have g : getB (setB b m.id ⟨3, (getB b m.id).pro, m.ins.vot, m.ins.cmd, m.ins.att⟩) m.id = ⟨3, (getB b m.id).pro, m.ins.vot, m.ins.cmd, m.ins.att⟩ := by rw [get_set, if_pos rfl]
    dsimp only
    rw [g]
    exact ⟨lessB_irrefl _, fun h => absurd h k2, fun h => by dsimp only at h; omega⟩
  · exact ⟨lessB_irrefl _, fun _ => rfl, fun h => by dsimp only at h; omega⟩
  · exact ⟨lessB_irrefl _, fun _ => rfl, fun h => by dsimp only at h; omega⟩
  · exact ⟨lessB_irrefl _, fun _ => rfl, fun h => by dsimp only at h; omega⟩
  · rw [get_keep]
    exact ⟨k2, fun h => absurd h k1, fun h => ⟨k1, k3⟩⟩
  · rw [get_keep]
    exact ⟨k2, fun h => absurd h k1, fun h => by dsimp only at h; omega⟩
  · rw [get_keep]
    exact ⟨k2, fun h => absurd h k1, fun h => by dsimp only at h; omega⟩
/-- How an answer stands to what was asked. -/
theorem hear_answers {n : Nat} {b : Bk} (h : BkOK n b) (m : Mes) : ∀ o ∈ (hearB b m).1, o.frm = b.node ∧ o.to = m.frm ∧ o.id = m.id ∧
    ((o.kind = 1 ∨ o.kind = 3 ∨ o.kind = 6) → lessB m.bal (getB b m.id).pro = false ∧ (getB (hearB b m).2 m.id).pro = m.bal ∧ o.bal = m.bal) := by
  obtain ⟨s1, s2, s3⟩ := get_st h m.id
  rcases hear_cases b m with e | ⟨_, ⟨k1, k2, e⟩ | ⟨_, ⟨k1, e⟩ | ⟨k1, ⟨k2, e⟩ | ⟨k2, ⟨k3, k4, k5, e⟩ | ⟨k3, k4, e⟩ | ⟨k3, e⟩ | ⟨k3, e⟩⟩⟩⟩⟩ <;> rw [e]
  · simp
  · simp
  · intro o ho
    rw [List.mem_singleton.1 ho]
    exact ⟨rfl, rfl, rfl, fun h => by simp [ansB] at h⟩
  · intro o ho
    rw [List.mem_singleton.1 ho]
    exact ⟨rfl, rfl, rfl, fun h => by simp [ansB] at h⟩
  · intro o ho
    rw [List.mem_singleton.1 ho]
    refine ⟨rfl, rfl, rfl, fun _ => ⟨k2, ?_, rfl⟩⟩
    have g := s3 k1
    rw [k5] at g
    show (getB b m.id).pro = m.bal
    rw [Bool.eq_false_iff] at k2 g
    simp only [ne_eq, lessB_iff] at k2 g
    cases hp : (getB b m.id).pro
    cases hb : m.bal
    rw [hp, hb] at k2 g
    dsimp only at k2 g
    congr 1 <;> omega
  · intro o ho
    rw [List.mem_singleton.1 ho, get_keep]
    exact ⟨rfl, rfl, rfl, fun _ => ⟨k2, rfl, rfl⟩⟩
  · intro o ho
    rw [List.mem_singleton.1 ho, get_keep]
    exact ⟨rfl, rfl, rfl, fun _ => ⟨k2, rfl, rfl⟩⟩
  · intro o ho
    rw [List.mem_singleton.1 ho, get_keep]
    exact ⟨rfl, rfl, rfl, fun _ => ⟨k2, rfl, rfl⟩⟩
/-- Behind a promise no lesser ballot is voted for. -/
theorem hear_promise {b : Bk} {p m : Mes} (hk : p.kind = 5) (h6 : ∀ o ∈ (hearB b p).1, o.kind = 6) (hl : (hearB b p).1.length = 1) (hid : m.id = p.id) (hlt : lessB m.bal p.bal = true) (hr : rightB (hearB b p).2 m = true) :
    (voteB m.kind = false → (hearB (hearB b p).2 m).1 = []) ∧
    (voteB m.kind = true → hearB (hearB b p).2 m = ([ansB (hearB b p).2 { m with bal := p.bal } 7 ins0], (hearB b p).2)) := by
  have key : (getB (hearB b p).2 p.id).st ≠ 3 ∧ (getB (hearB b p).2 p.id).pro = p.bal := by
    rcases hear_cases b p with e | ⟨_, ⟨k1, k2, e⟩ | ⟨_, ⟨k1, e⟩ | ⟨k1, ⟨k2, e⟩ | ⟨k2, ⟨k3, k4, k5, e⟩ | ⟨k3, k4, e⟩ | ⟨k3, e⟩ | ⟨k3, e⟩⟩⟩⟩⟩ <;> rw [e] at h6 hl ⊢
    · simp at hl
    · omega
    · have := h6 _ List.mem_cons_self; simp [ansB] at this
    · have := h6 _ List.mem_cons_self; simp [ansB] at this
    · omega
    · omega
    · omega
    · rw [get_keep]; exact ⟨k1, rfl⟩
  rw [← hid] at key
  generalize (hearB b p).2 = b' at *
  constructor
  · intro hv
    unfold hearB
    rw [hr, if_neg (by simp)]
    split
    · rfl
    · simp [hv]
  · intro hv
    have n4 : ¬ (m.kind = 4 ∧ (getB b' m.id).st ≠ 3) := by
      rintro ⟨e, _⟩
      rw [e] at hv
      exact absurd hv (by decide)
    unfold hearB
    rw [hr, if_neg (by simp), if_neg n4, if_neg (by rw [hv]; simp), if_neg key.1, key.2, if_pos hlt]
/-- Two that ask by unlike ballots. -/
theorem hear_ballots {k : Bk} {a b : Mes} (ha : a.kind = 2) (hb : b.kind = 2) (ra : rightB k a = true) (rb : rightB k b = true) (hid : b.id = a.id) (hst : (getB k a.id).st ≠ 3) (h1 : lessB a.bal (getB k a.id).pro = false) (h2 : lessB a.bal b.bal = true) :
    ∃ k1 k2, hearB k a = ([ansB k a 3 ⟨2, a.bal, a.bal, a.ins.cmd, a.ins.att⟩], k1) ∧ hearB k1 b = ([ansB k b 3 ⟨2, b.bal, b.bal, b.ins.cmd, b.ins.att⟩], k2) ∧
      hearB k2 a = ([ansB k { a with bal := b.bal } 7 ins0], k2) ∧ getB k2 a.id = ⟨2, b.bal, b.bal, b.ins.cmd, b.ins.att⟩ := by
  have step : ∀ (k : Bk) (m : Mes), m.kind = 2 → rightB k m = true → (getB k m.id).st ≠ 3 → lessB m.bal (getB k m.id).pro = false → hearB k m = keepB k m 3 ⟨2, m.bal, m.bal, m.ins.cmd, m.ins.att⟩ := fun k m hm hr h3 hl => by
    unfold hearB
    rw [hr, if_neg (by simp), if_neg (by omega), if_neg (by rw [hm]; decide), if_neg h3, hl, if_neg (by simp), if_neg (by omega), if_pos hm]
    rfl
  have e1 := step k a ha ra hst h1
  have g1 : getB (setB k a.id ⟨2, a.bal, a.bal, a.ins.cmd, a.ins.att⟩) a.id = ⟨2, a.bal, a.bal, a.ins.cmd, a.ins.att⟩ := by rw [get_set, if_pos rfl]
  have e2 := step (setB k a.id ⟨2, a.bal, a.bal, a.ins.cmd, a.ins.att⟩) b hb rb (by rw [hid, g1]; simp) (by rw [hid, g1]; exact lessB_asymm h2)
  have g2 : getB (setB (setB k a.id ⟨2, a.bal, a.bal, a.ins.cmd, a.ins.att⟩) b.id ⟨2, b.bal, b.bal, b.ins.cmd, b.ins.att⟩) a.id = ⟨2, b.bal, b.bal, b.ins.cmd, b.ins.att⟩ := by rw [get_set, if_pos hid.symm]
  refine ⟨_, _, e1, e2, ?_, g2⟩
  generalize hk2 : setB (setB k a.id ⟨2, a.bal, a.bal, a.ins.cmd, a.ins.att⟩) b.id ⟨2, b.bal, b.bal, b.ins.cmd, b.ins.att⟩ = k2 at g2
  have ra2 : rightB k2 a = true := by rw [← hk2]; exact ra
  have en : k2.node = k.node := by rw [← hk2]; rfl
  show hearB k2 a = _
  unfold hearB
  rw [ra2, if_neg (by simp), if_neg (by omega), if_neg (by rw [ha]; decide), g2, if_neg (by simp), if_pos h2]
  unfold ansB
  rw [en]
/-- Two books that know the same. -/
structure SameB (a b : Bk) : Prop where
  node : a.node = b.node
  con : a.con = b.con
  get : ∀ id, aget id a.m = aget id b.m
  na : (keys a.m).Nodup
  nb : (keys b.m).Nodup
theorem SameB.getB {a b : Bk} (h : SameB a b) (id : Id) : getB a id = getB b id := by unfold DS.getB; rw [h.get]
theorem SameB.idsB {a b : Bk} (h : SameB a b) : idsB a = idsB b := by
  unfold DS.idsB
  refine sortD_perm ?_
  rw [List.perm_ext_iff_of_nodup h.na h.nb]
  intro id
  rw [← aget_iff, ← aget_iff, h.get]
theorem SameB.knownB {a b : Bk} (h : SameB a b) : knownB a = knownB b := by
  unfold DS.knownB
  have e1 : (fun id => decide (1 ≤ (DS.getB a id).st)) = fun id => decide (1 ≤ (DS.getB b id).st) := by funext id; rw [h.getB]
  have e2 : knoB a = knoB b := by funext id; unfold knoB; rw [h.getB]
  rw [h.idsB, e1, e2]
theorem SameB.set {a b : Bk} (h : SameB a b) (id : Id) (x : Ins) : SameB (setB a id x) (setB b id x) :=
  ⟨h.node, h.con, fun j => by show aget j (aset id x a.m) = aget j (aset id x b.m); rw [aget_set, aget_set, h.get], nodup_set h.na, nodup_set h.nb⟩
theorem SameB.hear {a b : Bk} (h : SameB a b) (m : Mes) : (hearB a m).1 = (hearB b m).1 ∧ SameB (hearB a m).2 (hearB b m).2 := by
  have er : rightB a m = rightB b m := by unfold rightB memB; rw [h.node, h.con]
  have ea : ∀ m k x, ansB a m k x = ansB b m k x := fun m k x => by unfold ansB; rw [h.node]
  unfold hearB preB acceptB prepareB keepB
  rw [er, h.getB, h.knownB]
  simp only [ea]
  repeat' split
  all_goals first | exact ⟨rfl, h⟩ | exact ⟨rfl, h.set _ _⟩
/-- A book that is set as another one is. -/
def setAll (a : Bk) (b : Bk) (l : List Id) : Bk := l.foldl (fun b id => setB b id (getB a id)) b
theorem setAll_snoc (a b : Bk) (l : List Id) (x : Id) : setAll a b (l ++ [x]) = setB (setAll a b l) x (getB a x) := by simp [setAll]
theorem setAll_get (a b : Bk) (l : List Id) (j : Id) : aget j (setAll a b l).m = if j ∈ l then some (getB a j) else aget j b.m := by
  induction l generalizing b with
  | nil => simp [setAll]
  | cons x l ih =>
    show aget j (setAll a (setB b x (getB a x)) l).m = _
    rw [ih]
    show (if j ∈ l then some (getB a j) else aget j (aset x (getB a x) b.m)) = _
    rw [aget_set]
    by_cases h1 : j ∈ l
    · simp [h1]
    · by_cases h2 : j = x
      · subst h2; simp
      · simp [h1, h2]
theorem setAll_nodup (a b : Bk) (l : List Id) (h : (keys b.m).Nodup) : (keys (setAll a b l).m).Nodup := by
  induction l generalizing b with
  | nil => exact h
  | cons x l ih => exact ih _ (nodup_set h)
theorem setAll_con (a b : Bk) (l : List Id) : (setAll a b l).con = b.con ∧ (setAll a b l).node = b.node := by
  induction l generalizing b with
  | nil => exact ⟨rfl, rfl⟩
  | cons x l ih => exact ih _
theorem setAll_same (a : Bk) (h : (keys a.m).Nodup) : SameB (setAll a ⟨a.node, a.con, []⟩ (idsB a)) a := by
  obtain ⟨h1, h2⟩ := setAll_con a ⟨a.node, a.con, []⟩ (idsB a)
  refine ⟨h2, h1, fun j => ?_, setAll_nodup _ _ _ (by simp [keys]), h⟩
  rw [setAll_get]
  by_cases hj : j ∈ idsB a
  · rw [if_pos hj]
    have := aget_iff.2 (idsB_mem.1 hj)
    unfold getB
    cases hg : aget j a.m with
    | none => rw [hg] at this; cases this
    | some x => rfl
  · rw [if_neg hj]
    have : aget j a.m = none := aget_none.2 fun hk => hj (idsB_mem.2 hk)
    rw [this]
    rfl
theorem setAll_ok {n : Nat} {a b : Bk} (ha : BkOK n a) (hb : BkOK 0 b) (hc : b.con = a.con) (l : List Id) (hl : ∀ x ∈ l, x ∈ keys a.m) (hn : l.length ≤ n) : BkOK (n + n) (setAll a b l) := by
  have key : ∀ (l : List Id) (b : Bk) (k : Nat), BkOK (n + k) b → b.con = a.con → (∀ x ∈ l, x ∈ keys a.m) → BkOK (n + k + l.length) (setAll a b l) := by
    intro l
    induction l with
    | nil => intro b k h _ _; exact h
    | cons x l ih =>
      intro b k h hc hl
      have hx : EntOK n a.con.epoch (x, getB a x) := by
        rcases get_of ha x with ⟨e, _⟩ | e
        · exact absurd (hl x List.mem_cons_self) (aget_none.1 e)
        · exact ha.each _ e
      have h2 := h.set (id := x) (x := getB a x) (by rw [hc]; exact hx.mono (by omega))
      have h3 := ih (setB b x (getB a x)) (k + 1) (by rw [← Nat.add_assoc]; exact h2) hc fun y hy => hl y (List.mem_cons_of_mem _ hy)
      rw [List.length_cons]
      refine h3.mono (by omega)
  exact (key l b 0 (hb.mono (Nat.zero_le _)) hc hl).mono (by omega)
/-- Who votes for an instance tells all that matters to it. -/
theorem hear_sees {n : Nat} {b : Bk} (h : BkOK n b) {m : Mes} (hk : m.kind = 0) {o : Mes} (ho : (hearB b m).1 = [o]) (h1 : o.kind = 1) (hw : ¬ (1 ≤ (getB b m.id).st ∧ (getB b m.id).vot = m.bal)) :
    o.ins.att = mergeP m.ins.att (localP (knownB b) m.id m.ins.cmd) ∧ o.ins.cmd = m.ins.cmd ∧ m.id ∉ o.ins.att.deps ∧ m.ins.att.seq ≤ o.ins.att.seq ∧ rightI o.ins.att.deps = true ∧
    (∀ x ∈ m.ins.att.deps, x ∈ o.ins.att.deps) ∧ ∀ k ∈ knownB b, k.id ≠ m.id → bothB k.cmd m.ins.cmd = true → k.id ∈ o.ins.att.deps ∧ k.att.seq < o.ins.att.seq := by
  have hr : rightB b m = true := by
    cases hr : rightB b m with
    | true => rfl
    | false => rw [hear_wrong hr] at ho; cases ho
  obtain ⟨_, _, r3, _, _, r6⟩ := right_iff.1 hr
  obtain ⟨v1, _⟩ := validA_iff.1 r6
  have he : o = ansB b m 1 ⟨1, m.bal, m.bal, m.ins.cmd, mergeP m.ins.att (localP (knownB b) m.id m.ins.cmd)⟩ := by
    rcases hear_cases b m with e | ⟨_, ⟨k1, k2, e⟩ | ⟨_, ⟨k1, e⟩ | ⟨k1, ⟨k2, e⟩ | ⟨k2, ⟨k3, k4, k5, e⟩ | ⟨k3, k4, e⟩ | ⟨k3, e⟩ | ⟨k3, e⟩⟩⟩⟩⟩ <;> rw [e] at ho
    · cases ho
    · omega
    · cases ho; simp [ansB] at h1
    · cases ho; simp [ansB] at h1
    · exact absurd ⟨k4, k5⟩ hw
    · cases ho; rfl
    · omega
    · omega
  subst he
  refine ⟨rfl, rfl, ?_, Int.le_max_left _ _, merge_right _ _, fun x hx => merge_mem.2 (.inl hx), fun k hk hne hb => ?_⟩
  · intro hx
    rcases merge_mem.1 hx with hx | hx
    · exact (v1 _ hx).1 rfl
    · have hx : m.id ∈ cleanP (((knownB b).filter (matters m.id m.ins.cmd)).map (·.id)) := hx
      rw [clean_mem] at hx
      obtain ⟨k, hk, e⟩ := List.mem_map.1 hx
      have := (List.mem_filter.1 hk).2
      simp only [matters, Bool.and_eq_true, decide_eq_true_eq] at this
      exact this.1.1 e
  · obtain ⟨x, hx, _, _⟩ := knownB_ok h k hk
    have hm : matters m.id m.ins.cmd k = true := by
      simp only [matters, Bool.and_eq_true, decide_eq_true_eq]
      exact ⟨⟨hne, by rw [hx.ep, r3]⟩, hb⟩
    have hin := List.mem_filter.2 ⟨hk, hm⟩
    constructor
    · refine merge_mem.2 (.inr ?_)
      show k.id ∈ cleanP _
      rw [clean_mem]
      exact List.mem_map_of_mem hin
    · have := (foldl_max_ge ((knownB b).filter (matters m.id m.ins.cmd)) 0).2 k hin
      show k.att.seq < max m.ins.att.seq (_ + 1)
      omega
end Go.DS

/-
  Walks: configurations, ballots, books.
-/
namespace Go.DS
open Go Go.Proofs
set_option maxRecDepth 100000
set_option linter.unusedVariables false
set_option linter.unusedSimpArgs false
@[go_sem] theorem ok31 : calleeOK Try.prog 31 = true := by kernel_rfl
@[go_sem] theorem ex31 : (cfg.ext 31).isSome = true := rfl
@[go_sem] theorem ok51 : calleeOK Try.prog 51 = true := by kernel_rfl
@[go_sem] theorem ex51 : (cfg.ext 51).isSome = true := rfl
def cd61 : Cd := .seq (R [c0 4 (.tk (.c (ki .i64 0)))] [0, 1]) (.seq (.seq (R [c0 6 (.mv (.s 0)), c0 7 (.len 1 (.s 6)), c0 8 (.mv (.c (ki .i64 0)))] [0, 1, 7, 8]) (.block 0 (LP [0, 1, 7, 8] (.seq (R [c0 9 (.bin .lss .any (.s 8) (.s 7))] [0, 1, 7, 8, 9]) (.seq (.ite (.s 9) (.skip) (.exit 0)) (.seq (.block 1 (.seq (R [c0 10 (.mv (.s 8)), c0 5 (.tk (.s 10))] [0, 1, 5, 7, 8]) (.seq (R [c0 11 (.mv (.s 1)), c0 12 (.mv (.s 0)), c0 13 (.mv (.s 5)), c0 14 (.ixp 1 (.s 12) (.s 13)), c0 15 (.ld false 1 (.s 14)), cb 16 (.bin .eql .any (.s 11) (.s 15))] [0, 1, 5, 7, 8, 16]) (.ite (.s 16) (.seq (R [c0 17 (.mv (.s 5)), c0 4 (.tk (.s 17))] [4]) (.ret)) (.skip))))) (R [c0 18 (.bin .add .any (.s 8) (.c (ki .i64 1))), c0 8 (.mv (.s 18))] [0, 1, 7, 8]))))))) (.seq (R [c0 4 (.tk (.c (ki .i64 (-1))))] [4]) (.ret)))
theorem fun61 : Fun Try.prog cfg 61 19 cd61 [.s 4] := ⟨rfl, Try.f61, _, Try.func61, rfl, rfl, by kernel_rfl, by kernel_rfl⟩
@[go_sem] theorem ok61 : calleeOK Try.prog 61 = true := by kernel_rfl
@[go_sem] theorem ex61 : (cfg.ext 61).isSome = false := rfl
def cd50 : Cd := .seq (R [cb 4 (.tk (.c (kb false)))] [0, 1]) (.seq (R [c0 5 (.mv (.s 0)), c0 6 (.mv (.s 1)), c0 7 (.call none (.c (kf 61)) [(.s 5), (.s 6)]), cb 8 (.bin .geq .any (.s 7) (.c (ki .i64 0))), cb 4 (.tk (.s 8))] [4]) (.ret))
theorem fun50 : Fun Try.prog cfg 50 9 cd50 [.s 4] := ⟨rfl, Try.f50, _, Try.func50, rfl, rfl, by kernel_rfl, by kernel_rfl⟩
@[go_sem] theorem ok50 : calleeOK Try.prog 50 = true := by kernel_rfl
@[go_sem] theorem ex50 : (cfg.ext 50).isSome = false := rfl
def cd33 : Cd := .seq (R [c0 2 (.new false (.s 0)), cb 4 (.tk (.c (kb false)))] [1, 2]) (.seq (R [c0 5 (.mov 1 (.s 2)), c0 6 (.ld false 3 (.s 5)), c0 7 (.mv (.s 1)), cb 8 (.call none (.c (kf 50)) [(.s 6), (.s 7)]), cb 4 (.tk (.s 8))] [2, 4]) (.ret))
theorem fun33 : Fun Try.prog cfg 33 9 cd33 [.s 4] := ⟨rfl, Try.f33, _, Try.func33, rfl, rfl, by kernel_rfl, by kernel_rfl⟩
@[go_sem] theorem ok33 : calleeOK Try.prog 33 = true := by kernel_rfl
@[go_sem] theorem ex33 : (cfg.ext 33).isSome = false := rfl
def cd28 : Cd := .seq (R [c0 1 (.new false (.s 0)), c0 2 (.new false (.c (.agg [ki .i64 0, kn 1])))] [1, 2]) (.seq (RD [cd (some 3) false none (.mov 0 (.s 1)) false false [1], cd (some 4) false none (.ld false 1 (.s 3)) false false [3], cd (some 5) false none (.mov 1 (.s 1)) false false [1], cd (some 6) false none (.ld false 3 (.s 5)) false false [5], cd (some 7) false none (.call none (.c (kf 31)) [(.s 6)]) false false [6], cd (some 8) false none (.bld [ki .i64 0, kz 1] [(0, 1, (.s 4)), (1, 1, (.s 7))]) false false [4, 7], cd none false none (.st 2 (.s 2) (.s 8)) false false [2, 8]] [1, 2] [6]) (.ret))
theorem fun28 : Fun Try.prog cfg 28 9 cd28 [.b 2 true 2] := ⟨rfl, Try.f28, _, Try.func28, rfl, rfl, by kernel_rfl, by kernel_rfl⟩
@[go_sem] theorem ok28 : calleeOK Try.prog 28 = true := by kernel_rfl
@[go_sem] theorem ex28 : (cfg.ext 28).isSome = false := rfl
def cd23 : Cd := .seq (R [c0 2 (.new false (.s 0)), c0 3 (.new false (.s 1)), cb 4 (.tk (.c (kb false)))] [2, 3]) (.seq (.seq (R [c0 5 (.mov 0 (.s 2)), c0 6 (.ld false 1 (.s 5)), c0 7 (.mov 0 (.s 3)), c0 8 (.ld false 1 (.s 7)), cb 9 (.bin .eql .any (.s 6) (.s 8))] [2, 3, 9]) (.ite (.s 9) (.seq (R [c0 10 (.mov 1 (.s 2)), c0 11 (.ld false 1 (.s 10)), c0 12 (.mov 1 (.s 3)), c0 13 (.ld false 1 (.s 12)), cb 14 (.bin .lss .any (.s 11) (.s 13)), cb 4 (.tk (.s 14))] [2, 3, 4]) (.ret)) (.skip))) (.seq (R [c0 15 (.mov 0 (.s 2)), c0 16 (.ld false 1 (.s 15)), c0 17 (.mov 0 (.s 3)), c0 18 (.ld false 1 (.s 17)), cb 19 (.bin .lss .any (.s 16) (.s 18)), cb 4 (.tk (.s 19))] [2, 3, 4]) (.ret)))
theorem fun23 : Fun Try.prog cfg 23 20 cd23 [.s 4] := ⟨rfl, Try.f23, _, Try.func23, rfl, rfl, by kernel_rfl, by kernel_rfl⟩
@[go_sem] theorem ok23 : calleeOK Try.prog 23 = true := by kernel_rfl
@[go_sem] theorem ex23 : (cfg.ext 23).isSome = false := rfl
def cd45 : Cd := .seq (R [cb 4 (.tk (.c (kb false)))] [0, 1]) (.seq (R [c0 5 (.mv (.s 0)), cb 6 (.bin .leq .any (.c (ki .i64 0)) (.s 5)), cb 7 (.mv (.s 6)), cg 8 7 true (.mv (.s 0)), cg 9 7 true (.mv (.s 1)), ch 10 7 true (.bin .leq .any (.s 8) (.s 9)), cb 11 (.pick (.s 7) (.s 10) (.c (kb false))), cb 4 (.tk (.s 11))] [4]) (.ret))
theorem fun45 : Fun Try.prog cfg 45 12 cd45 [.s 4] := ⟨rfl, Try.f45, _, Try.func45, rfl, rfl, by kernel_rfl, by kernel_rfl⟩
@[go_sem] theorem ok45 : calleeOK Try.prog 45 = true := by kernel_rfl
@[go_sem] theorem ex45 : (cfg.ext 45).isSome = false := rfl
def cd21 : Cd := .seq (R [c0 1 (.new false (.s 0)), cb 2 (.tk (.c (kb false)))] [1]) (.seq (R [c0 3 (.tk (.c (kf 45)))] [1, 3]) (.seq (R [c0 4 (.mv (.s 3)), c0 5 (.mov 0 (.s 1)), c0 6 (.ld false 1 (.s 5)), cb 7 (.call none (.s 4) [(.s 6), (.c (ki .i64 1099511627776))]), cb 8 (.mv (.s 7)), cg 9 8 true (.mv (.s 3)), cg 10 8 true (.mov 1 (.s 1)), cg 11 8 true (.ld false 1 (.s 10)), ch 12 8 true (.call none (.s 9) [(.s 11), (.c (ki .i64 31))]), cb 13 (.pick (.s 8) (.s 12) (.c (kb false))), cb 2 (.tk (.s 13))] [1, 2]) (.ret)))
theorem fun21 : Fun Try.prog cfg 21 14 cd21 [.s 2] := ⟨rfl, Try.f21, _, Try.func21, rfl, rfl, by kernel_rfl, by kernel_rfl⟩
@[go_sem] theorem ok21 : calleeOK Try.prog 21 = true := by kernel_rfl
@[go_sem] theorem ex21 : (cfg.ext 21).isSome = false := rfl
variable {h : DHeap}
theorem one_nums' (l : List Int) : ∀ r ∈ vnums l, r.length = 1 := by
  intro r hr
  obtain ⟨s, _, rfl⟩ := List.mem_map.1 hr
  rfl
theorem cell_nums' (l : List Int) : (vnums l).flatten.all DV.cell = true := by
  simp only [List.all_eq_true, List.mem_flatten]
  rintro d ⟨r, hr, hd⟩
  obtain ⟨s, _, rfl⟩ := List.mem_map.1 hr
  simp only [List.mem_cons, List.not_mem_nil, or_false] at hd
  subst hd
  rfl
theorem cloneI_lim (own : Bool) (l : List Int) (hl : l.length ≤ 1048576) : lim Try.prog cfg 31 [.list own 1 (vnums l)] h = some (.list true 1 (vnums l), h) := by
  refine lim_ext rfl ?_ rfl
  show cloneLF 1 [.list own 1 (vnums l)] h = _
  simp only [cloneLF]
  rw [if_pos ⟨by first | rfl | trivial, by rw [vnums_len]; exact hl, one_nums' l, cell_nums' l⟩]
theorem cloneD_lim (own : Bool) (l : List Id) (hl : l.length ≤ 1048576) : lim Try.prog cfg 51 [.list own 3 (idr l)] h = some (.list true 3 (idr l), h) := by
  refine lim_ext rfl ?_ rfl
  show cloneLF 3 [.list own 3 (idr l)] h = _
  simp only [cloneLF]
  rw [if_pos ⟨by first | rfl | trivial, by rw [idr_len]; exact hl, three_ids l, cell_ids l⟩]
theorem indexN_lim (own : Bool) (l : List Int) (x : Int) (hl : l.length ≤ 1099511627776) :
    lim Try.prog cfg 61 [.list own 1 (vnums l), vi x] h = some (vi (posI (fun y => decide (x = y)) l), h) := by
  refine lim_funp fun61 rfl (by simp) (by simp [heapFree, heapFree.all, free_vnums]) rfl ?_
  delta cd61
  simp -implicitDefEqProofs -dsimp only [go_sem]
  refine wp_for (σ := Nat) (fun k => [(0, .list false 1 (vnums l)), (1, vi x), (7, vi (l.length : Nat)), (8, vi (k : Nat))]) (fun _ => []) (fun k => l.length - k) (fun k => k ≤ l.length ∧ ∀ j (hj : j < l.length), j < k → decide (x = l[j]) = false) 0 (by simp) rfl rfl ?_
  rintro k ⟨hk, hj⟩ N hN
  by_cases hlt : k < l.length
  · have h1 : ((k : Int) < (l.length : Int)) := by omega
    by_cases hc : x = l[k]
    · have e := posI_at (p := fun y => decide (x = y)) hlt (by simpa using hc) hj
      simp -implicitDefEqProofs -dsimp only [go_sem, wp_RD, h1, hlt, eq_true hc, e]
    · simp -implicitDefEqProofs -dsimp only [go_sem, wp_RD, h1, hlt, eq_false hc]
      refine hN (k + 1) _ (by omega) ⟨by omega, fun j hj1 hj2 => ?_⟩ ?_
      · by_cases e : j = k
        · subst e; simpa using hc
        · exact hj j hj1 (by omega)
      · simp -implicitDefEqProofs -dsimp only [go_sem, wrap_succ (show k < 9223372036854775807 by omega)]
  · have h1 : ¬ ((k : Int) < (l.length : Int)) := by omega
    have e := posI_no (p := fun y => decide (x = y)) (l := l) fun j hj1 => hj j hj1 (by omega)
    simp -implicitDefEqProofs -dsimp only [go_sem, h1, e]
theorem containsN_lim (own : Bool) (l : List Int) (x : Int) (hl : l.length ≤ 1099511627776) :
    lim Try.prog cfg 50 [.list own 1 (vnums l), vi x] h = some (vb (decide (x ∈ l)), h) := by
  refine lim_funp fun50 rfl (by simp) (by simp [heapFree, heapFree.all, free_vnums]) rfl ?_
  delta cd50
  have e1 := indexN_lim (h := []) false l x hl
  have e2 := posI_ge (fun y => decide (x = y)) l
  rw [any_mem] at e2
  simp -implicitDefEqProofs -dsimp only [go_sem, e1, e2]
  simp
theorem hasC_lim (e : Int) (l : List Int) (x : Int) (hl : l.length ≤ 1099511627776) :
    lim Try.prog cfg 33 [.agg [vi e, .list false 1 (vnums l)], vi x] h = some (vb (decide (x ∈ l)), h) := by
  refine lim_funp fun33 rfl (by simp) (by simp [heapFree, heapFree.all, free_vnums]) rfl ?_
  delta cd33
  have e1 := containsN_lim (h := []) false l x hl
  simp -implicitDefEqProofs -dsimp only [go_sem, e1]
  simp
theorem cloneC_lim (e : Int) (l : List Int) (hl : l.length ≤ 1048576) : lim Try.prog cfg 28 [.agg [vi e, .list false 1 (vnums l)]] h = some (.agg [vi e, .list false 1 (vnums l)], h) := by
  refine lim_funp fun28 rfl (by simp) (by simp [heapFree, heapFree.all, free_vnums]) (by simp [heapFree, heapFree.all, free_vnums]) ?_
  delta cd28
  have e1 := fun own => cloneI_lim (h := []) own l hl
  simp -implicitDefEqProofs -dsimp only [go_sem, wp_RD, Nat.reduceDiv, e1]
theorem lessB_lim (a b : Bal) : lim Try.prog cfg 23 [.agg [vi a.no, vi a.node], .agg [vi b.no, vi b.node]] h = some (vb (lessB a b), h) := by
  refine lim_funp fun23 rfl (by simp) rfl rfl ?_
  delta cd23
  unfold lessB
  by_cases h1 : a.no = b.no
  · simp -implicitDefEqProofs -dsimp only [go_sem, h1]
    simp
  · simp -implicitDefEqProofs -dsimp only [go_sem, h1]
    simp [h1]
theorem inB_lim (n m : Int) : lim Try.prog cfg 45 [vi n, vi m] h = some (vb (decide (0 ≤ n) && decide (n ≤ m)), h) := by
  refine lim_funp fun45 rfl (by simp) rfl rfl ?_
  delta cd45
  by_cases h1 : 0 ≤ n <;> simp -implicitDefEqProofs -dsimp only [go_sem, h1] <;> simp
theorem validB_lim (x : Bal) : lim Try.prog cfg 21 [.agg [vi x.no, vi x.node]] h = some (vb (balB x), h) := by
  refine lim_funp fun21 rfl (by simp) rfl rfl ?_
  delta cd21
  have e1 := inB_lim (h := []) x.no 1099511627776
  have e2 := inB_lim (h := []) x.node 31
  unfold balB
  cases h1 : (decide (0 ≤ x.no) && decide (x.no ≤ 1099511627776)) <;> cases h2 : (decide (0 ≤ x.node) && decide (x.node ≤ 31)) <;> rw [h1] at e1 <;> rw [h2] at e2 <;>
    simp -implicitDefEqProofs -dsimp only [go_sem, e1, e2] <;> simp [h1, h2]
/-- How an instance, a book stand in the heap. -/
abbrev idV (x : Id) : DV := .agg [vi x.e, vi x.n, vi x.k]
abbrev insL (x : Ins) : List DV := [vi x.st, vi x.pro.no, vi x.pro.node, vi x.vot.no, vi x.vot.node, vi x.cmd.client, vi x.cmd.seq, vi x.cmd.op, vs x.cmd.path, vs x.cmd.value, vi x.cmd.version, vi x.cmd.a, vi x.cmd.b, vi x.att.seq, .list false 3 (idr x.att.deps)]
abbrev insD (x : Ins) : DV := .agg [vi x.st, vi x.pro.no, vi x.pro.node, vi x.vot.no, vi x.vot.node, vi x.cmd.client, vi x.cmd.seq, vi x.cmd.op, vs x.cmd.path, vs x.cmd.value, vi x.cmd.version, vi x.cmd.a, vi x.cmd.b, vi x.att.seq, .list false 3 (idr x.att.deps)]
abbrev bookM (b : Bk) : DObj := .map (amap idV insD b.m)
structure AtB (h : DHeap) (i j : Nat) (b : Bk) : Prop where
  o : h[i]? = some (.cells [vi b.node, vi b.con.epoch, .list false 1 (vnums b.con.nodes), .mp j])
  m : h[j]? = some (bookM b)
theorem AtB.obj {i j : Nat} {b : Bk} (H : AtB h i j b) (N : List DV → Prop) : ObjP h i N = N [vi b.node, vi b.con.epoch, .list false 1 (vnums b.con.nodes), .mp j] := by simp only [ObjP, H.o]
theorem AtB.map {i j : Nat} {b : Bk} (H : AtB h i j b) (N : List (DV × DV) → Prop) : MapP h j N = N (amap idV insD b.m) := by simp only [MapP, H.m]
theorem AtB.lt {i j : Nat} {b : Bk} (H : AtB h i j b) : i < h.length ∧ j < h.length := ⟨(List.getElem?_eq_some_iff.1 H.o).1, (List.getElem?_eq_some_iff.1 H.m).1⟩
theorem AtB.ne {i j : Nat} {b : Bk} (H : AtB h i j b) : i ≠ j := fun e => by have := H.m; rw [← e, H.o] at this; cases this
theorem AtB.set {i j : Nat} {b : Bk} (H : AtB h i j b) (m : List (Id × Ins)) : AtB (h.set j (bookM { b with m := m })) i j { b with m := m } :=
  ⟨by rw [List.getElem?_set_ne (Ne.symm H.ne)]; exact H.o, by rw [List.getElem?_set_self H.lt.2]⟩
theorem AtB.app {i j : Nat} {b : Bk} (H : AtB h i j b) (h' : DHeap) : AtB (h ++ h') i j b :=
  ⟨by rw [List.getElem?_append_left H.lt.1]; exact H.o, by rw [List.getElem?_append_left H.lt.2]; exact H.m⟩
theorem find_ins (id : Id) (m : List (Id × Ins)) : findD [0, 0, 0] (.agg [vi id.e, vi id.n, vi id.k]) (amap idV insD m) = some ((aget id m).map insD) := find_amap (K := idV) (V := insD) (fun a b => eqK_id a b) id m
theorem set_ins (id : Id) (x : Ins) (m : List (Id × Ins)) : setKey [0, 0, 0] (.agg [vi id.e, vi id.n, vi id.k]) (insD x) (amap idV insD m) = some (amap idV insD (aset id x m)) := set_amap (K := idV) (V := insD) (fun a b => eqK_id a b) id x m
theorem got_ins (id : Id) (b : Bk) : ((aget id b.m).map insD).getD (.agg [vi 0, vi 0, vi 0, vi 0, vi 0, vi 0, vi 0, vi 0, vs [], vs [], vi 0, vi 0, vi 0, vi 0, .list true 3 []]) =
    .agg [vi (getB b id).st, vi (getB b id).pro.no, vi (getB b id).pro.node, vi (getB b id).vot.no, vi (getB b id).vot.node, vi (getB b id).cmd.client, vi (getB b id).cmd.seq, vi (getB b id).cmd.op, vs (getB b id).cmd.path, vs (getB b id).cmd.value, vi (getB b id).cmd.version, vi (getB b id).cmd.a, vi (getB b id).cmd.b, vi (getB b id).att.seq, .list (aget id b.m).isNone 3 (idr (getB b id).att.deps)] := by
  unfold getB
  cases aget id b.m <;> rfl
/-- A message's cells. -/
def pes (l : List PEnt) : List (List DV) := l.map fun e => [vs e.path, vs e.value, vi e.ver]
def pss (l : List PSes) : List (List DV) := l.map fun e => [vi e.client, vi e.seq, vi e.err, vs e.value, vi e.ver, .list false 1 (ts e.names)]
@[go_sem] theorem pes_len (l : List PEnt) : (pes l).length = l.length := by simp [pes]
@[go_sem] theorem pss_len (l : List PSes) : (pss l).length = l.length := by simp [pss]
@[go_sem high] theorem idxP_pes (l : List PEnt) (i : Int) (N : List DV → Prop) : IdxP (pes l) i N = IdxP l i fun e => N [vs e.path, vs e.value, vi e.ver] := idxP_map
@[go_sem high] theorem idxP_pss (l : List PSes) (i : Int) (N : List DV → Prop) : IdxP (pss l) i N = IdxP l i fun e => N [vi e.client, vi e.seq, vi e.err, vs e.value, vi e.ver, .list false 1 (ts e.names)] := idxP_map
theorem free_pes : ∀ l : List PEnt, heapFree.alls (pes l) = true
  | [] => rfl
  | s :: l => by
    have := free_pes l
    simp only [pes] at this
    simp only [pes, List.map_cons, heapFree.alls, heapFree.all, heapFree, this, Bool.and_self]
theorem free_pss : ∀ l : List PSes, heapFree.alls (pss l) = true
  | [] => rfl
  | s :: l => by
    have := free_pss l
    simp only [pss] at this
    simp only [pss, List.map_cons, heapFree.alls, heapFree.all, heapFree, free_ts, this, Bool.and_self]
theorem below_pes (n : Nat) : ∀ l : List PEnt, below.alls n (pes l) = true
  | [] => rfl
  | s :: l => by
    have := below_pes n l
    simp only [pes] at this
    simp only [pes, List.map_cons, below.alls, below.all, below, this, Bool.and_self]
theorem below_ts15 (n : Nat) : ∀ l : List Str, below.alls n (ts l) = true
  | [] => rfl
  | s :: l => by
    have := below_ts15 n l
    simp only [ts] at this
    simp only [ts, List.map_cons, below.alls, below.all, below, this, Bool.and_self]
theorem below_pss (n : Nat) : ∀ l : List PSes, below.alls n (pss l) = true
  | [] => rfl
  | s :: l => by
    have := below_pss n l
    simp only [pss] at this
    simp only [pss, List.map_cons, below.alls, below.all, below, below_ts15, this, Bool.and_self]
abbrev mesL (m : Mes) : List DV := [vi m.kind, vi m.frm, vi m.to, vi m.id.e, vi m.id.n, vi m.id.k, vi m.bal.no, vi m.bal.node, vi m.ins.st, vi m.ins.pro.no, vi m.ins.pro.node, vi m.ins.vot.no, vi m.ins.vot.node, vi m.ins.cmd.client, vi m.ins.cmd.seq, vi m.ins.cmd.op, vs m.ins.cmd.path, vs m.ins.cmd.value, vi m.ins.cmd.version, vi m.ins.cmd.a, vi m.ins.cmd.b, vi m.ins.att.seq, .list false 3 (idr m.ins.att.deps), vi m.snap.con.epoch, .list false 1 (vnums m.snap.con.nodes), .list false 3 (pes m.snap.paths), .list false 6 (pss m.snap.sess)]
abbrev mesD (m : Mes) : DV := .agg [vi m.kind, vi m.frm, vi m.to, vi m.id.e, vi m.id.n, vi m.id.k, vi m.bal.no, vi m.bal.node, vi m.ins.st, vi m.ins.pro.no, vi m.ins.pro.node, vi m.ins.vot.no, vi m.ins.vot.node, vi m.ins.cmd.client, vi m.ins.cmd.seq, vi m.ins.cmd.op, vs m.ins.cmd.path, vs m.ins.cmd.value, vi m.ins.cmd.version, vi m.ins.cmd.a, vi m.ins.cmd.b, vi m.ins.att.seq, .list false 3 (idr m.ins.att.deps), vi m.snap.con.epoch, .list false 1 (vnums m.snap.con.nodes), .list false 3 (pes m.snap.paths), .list false 6 (pss m.snap.sess)]
def mess (l : List Mes) : List (List DV) := l.map fun m => [vi m.kind, vi m.frm, vi m.to, vi m.id.e, vi m.id.n, vi m.id.k, vi m.bal.no, vi m.bal.node, vi m.ins.st, vi m.ins.pro.no, vi m.ins.pro.node, vi m.ins.vot.no, vi m.ins.vot.node, vi m.ins.cmd.client, vi m.ins.cmd.seq, vi m.ins.cmd.op, vs m.ins.cmd.path, vs m.ins.cmd.value, vi m.ins.cmd.version, vi m.ins.cmd.a, vi m.ins.cmd.b, vi m.ins.att.seq, .list false 3 (idr m.ins.att.deps), vi m.snap.con.epoch, .list false 1 (vnums m.snap.con.nodes), .list false 3 (pes m.snap.paths), .list false 6 (pss m.snap.sess)]
@[go_sem] theorem mess_len (l : List Mes) : (mess l).length = l.length := by simp [mess]
@[go_sem high] theorem idxP_mess (l : List Mes) (i : Int) (N : List DV → Prop) : IdxP (mess l) i N = IdxP l i fun m => N [vi m.kind, vi m.frm, vi m.to, vi m.id.e, vi m.id.n, vi m.id.k, vi m.bal.no, vi m.bal.node, vi m.ins.st, vi m.ins.pro.no, vi m.ins.pro.node, vi m.ins.vot.no, vi m.ins.vot.node, vi m.ins.cmd.client, vi m.ins.cmd.seq, vi m.ins.cmd.op, vs m.ins.cmd.path, vs m.ins.cmd.value, vi m.ins.cmd.version, vi m.ins.cmd.a, vi m.ins.cmd.b, vi m.ins.att.seq, .list false 3 (idr m.ins.att.deps), vi m.snap.con.epoch, .list false 1 (vnums m.snap.con.nodes), .list false 3 (pes m.snap.paths), .list false 6 (pss m.snap.sess)] := idxP_map
theorem free_mess : ∀ l : List Mes, heapFree.alls (mess l) = true
  | [] => rfl
  | s :: l => by
    have := free_mess l
    simp only [mess] at this
    simp only [mess, List.map_cons, heapFree.alls, heapFree.all, heapFree, free_idr, free_vnums, free_pes, free_pss, this, Bool.and_self]
theorem below_mess (n : Nat) : ∀ l : List Mes, below.alls n (mess l) = true
  | [] => rfl
  | s :: l => by
    have := below_mess n l
    simp only [mess] at this
    simp only [mess, List.map_cons, below.alls, below.all, below, below_idr, below_vnums, below_pes, below_pss, this, Bool.and_self]
theorem keysDOKb {n : Nat} {b : Bk} (O : BkOK n b) (hn : n ≤ 1000000) : KeysDOK (amap idV insD b.m) (keys b.m) :=
  ⟨by simp only [amap, keys, List.map_map]; rfl, O.nodup, by rw [keys_len]; have := O.len; omega⟩
theorem amap_keysD (b : Bk) : (amap idV insD b.m).map (fun e => keyD e.1) = keys b.m := by
  simp only [amap, keys, List.map_map]
  exact List.map_congr_left fun e _ => rfl
theorem kns_snoc' (l : List Kno) (x : Kno) : kns l ++ [[vi x.id.e, vi x.id.n, vi x.id.k, vi x.cmd.client, vi x.cmd.seq, vi x.cmd.op, vs x.cmd.path, vs x.cmd.value, vi x.cmd.version, vi x.cmd.a, vi x.cmd.b, vi x.att.seq, .list false 3 (idr x.att.deps)]] = kns (l ++ [x]) := by simp [kns]
/-- What is known, as far as it was looked at. -/
def knownN (b : Bk) (k : Nat) : List Kno := (((idsB b).take k).filter fun id => decide (1 ≤ (getB b id).st)).map (knoB b)
theorem knownN_len (b : Bk) (k : Nat) : (knownN b k).length ≤ k := by
  unfold knownN
  rw [List.length_map]
  exact Nat.le_trans (List.length_filter_le ..) (by rw [List.length_take]; omega)
theorem knownN_succ (b : Bk) (k : Nat) (hk : k < (idsB b).length) : knownN b (k + 1) = if 1 ≤ (getB b (idsB b)[k]).st then knownN b k ++ [knoB b (idsB b)[k]] else knownN b k := by
  unfold knownN
  rw [List.take_succ_eq_append_getElem hk, List.filter_append, List.map_append]
  split
  · rename_i h; simp [h]
  · rename_i h; simp [h]
@[go_sem] theorem eqs_bal (x y : Bal) : eqs [0, 0] [vi x.no, vi x.node] [vi y.no, vi y.node] = some (decide (x = y)) := by
  rw [eqs_int, eqs_int, eqs_nil]
  simp only [Option.map_some, Bool.and_true]
  congr 1
  rw [Bool.eq_iff_iff]
  obtain ⟨a, b⟩ := x
  obtain ⟨c, d⟩ := y
  simp
theorem set_same15 {h : DHeap} {j : Nat} {o : DObj} (e : h[j]? = some o) : h.set j o = h := by
  obtain ⟨hj, rfl⟩ := List.getElem?_eq_some_iff.1 e
  exact List.set_getElem_self hj
@[go_sem] theorem eqs_cmd (x y : Cmd) : eqs [0, 0, 0, 2, 2, 0, 0, 0] [vi x.client, vi x.seq, vi x.op, vs x.path, vs x.value, vi x.version, vi x.a, vi x.b] [vi y.client, vi y.seq, vi y.op, vs y.path, vs y.value, vi y.version, vi y.a, vi y.b] = some (decide (x = y)) := by
  rw [eqs_int, eqs_int, eqs_int, eqs_str, eqs_str, eqs_int, eqs_int, eqs_int, eqs_nil]
  simp only [Option.map_some, Bool.and_true]
  congr 1
  rw [Bool.eq_iff_iff]
  obtain ⟨a, b, c, d, e, f, g, h⟩ := x
  obtain ⟨a', b', c', d', e', f', g', h'⟩ := y
  simp
end Go.DS

/-
  Walks: the laws of accept: what they share.
-/
namespace Go.DS
open Go Go.Proofs
set_option maxRecDepth 100000
set_option linter.unusedVariables false
set_option linter.unusedSimpArgs false
def cd46 : Cd := .seq (R [c0 1 (.new false (.s 0)), cb 2 (.tk (.c (kb false)))] [1]) (.seq (R [c0 7 (.mov 0 (.s 1)), c0 8 (.mov 1 (.s 7)), c0 9 (.ld false 3 (.s 8)), c0 10 (.len 1 (.s 9)), c0 11 (.mov 2 (.s 1)), c0 12 (.ld false 5 (.s 11)), c0 13 (.len 1 (.s 12)), c0 14 (.bin .add .any (.s 10) (.s 13)), c0 15 (.mov 3 (.s 1)), c0 16 (.ld false 8 (.s 15)), c0 17 (.len 1 (.s 16)), c0 18 (.bin .add .any (.s 14) (.s 17)), c0 3 (.mv (.s 18))] [1, 3]) (.seq (.seq (R [c0 4 (.tk (.c (ki .i64 0)))] [1, 3, 4]) (.block 0 (LP [1, 3, 4] (.seq (.seq (R [c0 19 (.mv (.s 4)), c0 20 (.mov 2 (.s 1)), c0 21 (.ld false 5 (.s 20)), c0 22 (.len 1 (.s 21)), cb 23 (.bin .lss .any (.s 19) (.s 22)), cb 24 (.mv (.s 23)), cg 25 24 true (.mv (.s 4)), ch 26 24 true (.bin .lss .any (.s 25) (.c (ki .i64 3000))), cb 27 (.pick (.s 24) (.s 26) (.c (kb false)))] [1, 3, 4, 27]) (.ite (.s 27) (.skip) (.exit 0))) (.seq (.block 1 (RD [cd (some 30) false none (.mv (.s 3)) false false [3], cd (some 31) false none (.mov 2 (.s 1)) false false [1], cd (some 32) false none (.ld false 5 (.s 31)) false false [31], cd (some 33) false none (.mv (.s 4)) false false [4], cd (some 34) false none (.ixp 3 (.s 32) (.s 33)) false false [32, 33], cd (some 35) false none (.mov 0 (.s 34)) false false [34], cd (some 36) false none (.ld false 1 (.s 35)) false false [35], cd (some 37) false none (.len 0 (.s 36)) false false [36], cd (some 38) false none (.bin .add .any (.s 30) (.s 37)) false false [30, 37], cd (some 39) false none (.mov 2 (.s 1)) false false [1], cd (some 40) false none (.ld false 5 (.s 39)) false false [39], cd (some 41) false none (.mv (.s 4)) false false [4], cd (some 42) false none (.ixp 3 (.s 40) (.s 41)) false false [40, 41], cd (some 43) false none (.mov 1 (.s 42)) false false [42], cd (some 44) false none (.ld false 1 (.s 43)) false false [43], cd (some 45) false none (.len 0 (.s 44)) false false [44], cd (some 46) false none (.bin .add .any (.s 38) (.s 45)) false false [38, 45], cd (some 3) false none (.mv (.s 46)) false false [46]] [1, 3, 4] [])) (R [c0 28 (.mv (.s 4)), c0 29 (.bin .add .any (.s 28) (.c (ki .i64 1))), c0 4 (.tk (.s 29))] [1, 3, 4])))))) (.seq (.seq (R [c0 5 (.tk (.c (ki .i64 0)))] [1, 3, 5]) (.block 2 (LP [1, 3, 5] (.seq (.seq (R [c0 47 (.mv (.s 5)), c0 48 (.mov 3 (.s 1)), c0 49 (.ld false 8 (.s 48)), c0 50 (.len 1 (.s 49)), cb 51 (.bin .lss .any (.s 47) (.s 50)), cb 52 (.mv (.s 51)), cg 53 52 true (.mv (.s 5)), ch 54 52 true (.bin .lss .any (.s 53) (.c (ki .i64 3000))), cb 55 (.pick (.s 52) (.s 54) (.c (kb false)))] [1, 3, 5, 55]) (.ite (.s 55) (.skip) (.exit 2))) (.seq (.block 3 (.seq (RD [cd (some 58) false none (.mv (.s 3)) false false [3], cd (some 59) false none (.mov 3 (.s 1)) false false [1], cd (some 60) false none (.ld false 8 (.s 59)) false false [59], cd (some 61) false none (.mv (.s 5)) false false [5], cd (some 62) false none (.ixp 6 (.s 60) (.s 61)) false false [60, 61], cd (some 63) false none (.mov 2 (.s 62)) false false [62], cd (some 64) false none (.mov 1 (.s 63)) false false [63], cd (some 65) false none (.ld false 1 (.s 64)) false false [64], cd (some 66) false none (.len 0 (.s 65)) false false [65], cd (some 67) false none (.bin .add .any (.s 58) (.s 66)) false false [58, 66], cd (some 68) false none (.mov 3 (.s 1)) false false [1], cd (some 69) false none (.ld false 8 (.s 68)) false false [68], cd (some 70) false none (.mv (.s 5)) false false [5], cd (some 71) false none (.ixp 6 (.s 69) (.s 70)) false false [69, 70], cd (some 72) false none (.mov 2 (.s 71)) false false [71], cd (some 73) false none (.mov 3 (.s 72)) false false [72], cd (some 74) false none (.ld false 3 (.s 73)) false false [73], cd (some 75) false none (.len 1 (.s 74)) false false [74], cd (some 76) false none (.bin .add .any (.s 67) (.s 75)) false false [67, 75], cd (some 3) false none (.mv (.s 76)) false false [76]] [1, 3, 5] []) (.seq (R [c0 6 (.tk (.c (ki .i64 0)))] [1, 3, 5, 6]) (.block 4 (LP [1, 3, 5, 6] (.seq (.seq (R [c0 77 (.mv (.s 6)), c0 78 (.mov 3 (.s 1)), c0 79 (.ld false 8 (.s 78)), c0 80 (.mv (.s 5)), c0 81 (.ixp 6 (.s 79) (.s 80)), c0 82 (.mov 2 (.s 81)), c0 83 (.mov 3 (.s 82)), c0 84 (.ld false 3 (.s 83)), c0 85 (.len 1 (.s 84)), cb 86 (.bin .lss .any (.s 77) (.s 85)), cb 87 (.mv (.s 86)), cg 88 87 true (.mv (.s 6)), ch 89 87 true (.bin .lss .any (.s 88) (.c (ki .i64 3000))), cb 90 (.pick (.s 87) (.s 89) (.c (kb false)))] [1, 3, 5, 6, 90]) (.ite (.s 90) (.skip) (.exit 4))) (.seq (.block 5 (R [c0 93 (.mv (.s 3)), c0 94 (.mov 3 (.s 1)), c0 95 (.ld false 8 (.s 94)), c0 96 (.mv (.s 5)), c0 97 (.ixp 6 (.s 95) (.s 96)), c0 98 (.mov 2 (.s 97)), c0 99 (.mov 3 (.s 98)), c0 100 (.ld false 3 (.s 99)), c0 101 (.mv (.s 6)), c0 102 (.ixp 1 (.s 100) (.s 101)), c0 103 (.ld false 1 (.s 102)), c0 104 (.len 0 (.s 103)), c0 105 (.bin .add .any (.s 93) (.s 104)), c0 3 (.mv (.s 105))] [1, 3, 5, 6])) (R [c0 91 (.mv (.s 6)), c0 92 (.bin .add .any (.s 91) (.c (ki .i64 1))), c0 6 (.tk (.s 92))] [1, 3, 5, 6])))))))) (R [c0 56 (.mv (.s 5)), c0 57 (.bin .add .any (.s 56) (.c (ki .i64 1))), c0 5 (.tk (.s 57))] [1, 3, 5])))))) (.seq (R [c0 106 (.mv (.s 3)), cb 107 (.bin .lss .any (.s 106) (.c (ki .i64 3000))), cb 2 (.tk (.s 107))] [1, 2]) (.ret)))))
theorem fun46 : Fun Try.prog cfg 46 108 cd46 [.s 2] := ⟨rfl, Try.f46, _, Try.func46, rfl, rfl, by kernel_rfl, by kernel_rfl⟩
@[go_sem] theorem ok46 : calleeOK Try.prog 46 = true := by kernel_rfl
@[go_sem] theorem ex46 : (cfg.ext 46).isSome = false := rfl
def cd27 : Cd := .seq (R [c0 1 (.new false (.s 0)), cb 2 (.tk (.c (kb false)))] [1]) (.seq (R [c0 4 (.mov 8 (.s 1)), c0 5 (.mov 5 (.s 4)), c0 6 (.mov 3 (.s 5)), c0 7 (.ld false 1 (.s 6)), c0 8 (.len 0 (.s 7)), c0 9 (.mov 8 (.s 1)), c0 10 (.mov 5 (.s 9)), c0 11 (.mov 4 (.s 10)), c0 12 (.ld false 1 (.s 11)), c0 13 (.len 0 (.s 12)), c0 14 (.bin .add .any (.s 8) (.s 13)), c0 15 (.mov 8 (.s 1)), c0 16 (.mov 13 (.s 15)), c0 17 (.mov 1 (.s 16)), c0 18 (.ld false 5 (.s 17)), c0 19 (.len 1 (.s 18)), c0 20 (.bin .add .any (.s 14) (.s 19)), c0 3 (.tk (.s 20))] [1, 3]) (.seq (R [c0 21 (.mv (.s 3)), cb 22 (.bin .lss .any (.s 21) (.c (ki .i64 3000))), cb 23 (.mv (.s 22)), cg 24 23 true (.mov 23 (.s 1)), cg 25 23 true (.ld true 4 (.s 24)), ch 26 23 true (.call none (.c (kf 46)) [(.s 25)]), cb 27 (.pick (.s 23) (.s 26) (.c (kb false))), cb 2 (.tk (.s 27))] [1, 2]) (.ret)))
theorem fun27 : Fun Try.prog cfg 27 28 cd27 [.s 2] := ⟨rfl, Try.f27, _, Try.func27, rfl, rfl, by kernel_rfl, by kernel_rfl⟩
@[go_sem] theorem ok27 : calleeOK Try.prog 27 = true := by kernel_rfl
@[go_sem] theorem ex27 : (cfg.ext 27).isSome = false := rfl
def cd9 : Cd := .seq (R [cb 2 (.tk (.c (kb false)))] [0]) (.seq (.seq (R [c0 3 (.tk (.c (ki .i64 0)))] [0, 3]) (.block 0 (LP [0, 3] (.seq (.seq (R [c0 4 (.mv (.s 3)), c0 5 (.mv (.s 0)), c0 6 (.len 1 (.s 5)), cb 7 (.bin .lss .any (.s 4) (.s 6)), cb 8 (.mv (.s 7)), cg 9 8 true (.mv (.s 3)), ch 10 8 true (.bin .leq .any (.s 9) (.c (ki .i64 40))), cb 11 (.pick (.s 8) (.s 10) (.c (kb false)))] [0, 3, 11]) (.ite (.s 11) (.skip) (.exit 0))) (.seq (.block 1 (.seq (R (c0 14 (.mv (.s 0)) :: c0 15 (.mv (.s 3)) :: c0 16 (.ixp 27 (.s 14) (.s 15)) :: c0 17 (.ld true 27 (.s 16)) :: cb 18 (.call none (.c (kf 27)) [(.s 17)]) :: cb 19 (.un .not (.s 18)) :: cb 20 (.mv (.s 19)) :: cg 21 20 false (.mv (.s 0)) :: cg 22 20 false (.mv (.s 3)) :: cg 23 20 false (.ixp 27 (.s 21) (.s 22)) :: cg 24 20 false (.mov 8 (.s 23)) :: cg 25 20 false (.mov 13 (.s 24)) :: cg 26 20 false (.mov 1 (.s 25)) :: cg 27 20 false (.ld false 5 (.s 26)) :: cg 28 20 false (.len 1 (.s 27)) :: ch 29 20 false (.bin .gtr .any (.s 28) (.c (ki .i64 60))) :: cb 30 (.pick (.s 20) (.c (kb true)) (.s 29)) :: cb 31 (.mv (.s 30)) :: cg 32 31 false (.mv (.s 0)) :: cg 33 31 false (.mv (.s 3)) :: cg 34 31 false (.ixp 27 (.s 32) (.s 33)) :: cg 35 31 false (.mov 8 (.s 34)) :: cg 36 31 false (.mov 5 (.s 35)) :: cg 37 31 false (.mov 3 (.s 36)) :: cg 38 31 false (.ld false 1 (.s 37)) :: cg 39 31 false (.len 0 (.s 38)) :: ch 40 31 false (.bin .gtr .any (.s 39) (.c (ki .i64 300))) :: cb 41 (.pick (.s 31) (.c (kb true)) (.s 40)) :: cb 42 (.mv (.s 41)) :: cg 43 42 false (.mv (.s 0)) :: cg 44 42 false (.mv (.s 3)) :: cg 45 42 false (.ixp 27 (.s 43) (.s 44)) :: cg 46 42 false (.mov 8 (.s 45)) :: cg 47 42 false (.mov 5 (.s 46)) :: cg 48 42 false (.mov 4 (.s 47)) :: cg 49 42 false (.ld false 1 (.s 48)) :: cg 50 42 false (.len 0 (.s 49)) :: ch 51 42 false (.bin .gtr .any (.s 50) (.c (ki .i64 300))) :: cb 52 (.pick (.s 42) (.c (kb true)) (.s 51)) :: []) [0, 3, 52]) (.ite (.s 52) (.seq (R [cb 2 (.tk (.c (kb true)))] [2]) (.ret)) (.skip)))) (R [c0 12 (.mv (.s 3)), c0 13 (.bin .add .any (.s 12) (.c (ki .i64 1))), c0 3 (.tk (.s 13))] [0, 3])))))) (.seq (R [c0 53 (.mv (.s 0)), c0 54 (.len 1 (.s 53)), cb 55 (.bin .gtr .any (.s 54) (.c (ki .i64 40))), cb 2 (.tk (.s 55))] [2]) (.ret)))
theorem fun9 : Fun Try.prog cfg 9 56 cd9 [.s 2] := ⟨rfl, Try.f9, _, Try.func9, rfl, rfl, by kernel_rfl, by kernel_rfl⟩
@[go_sem] theorem ok9 : calleeOK Try.prog 9 = true := by kernel_rfl
@[go_sem] theorem ex9 : (cfg.ext 9).isSome = false := rfl
def cd43 : Cd := .seq (R [cb 4 (.tk (.c (kb false)))] [0, 1]) (.seq (.seq (R [c0 6 (.mv (.s 0)), c0 7 (.len 1 (.s 6)), c0 8 (.mv (.s 1)), c0 9 (.len 1 (.s 8)), cb 10 (.bin .neq .any (.s 7) (.s 9))] [0, 1, 10]) (.ite (.s 10) (.seq (R [cb 4 (.tk (.c (kb false)))] [4]) (.ret)) (.skip))) (.seq (.seq (R [c0 5 (.tk (.c (ki .i64 0)))] [0, 1, 5]) (.block 0 (LP [0, 1, 5] (.seq (.seq (R [c0 11 (.mv (.s 5)), c0 12 (.mv (.s 0)), c0 13 (.len 1 (.s 12)), cb 14 (.bin .lss .any (.s 11) (.s 13))] [0, 1, 5, 14]) (.ite (.s 14) (.skip) (.exit 0))) (.seq (.block 1 (.seq (RD [cd (some 17) false none (.mv (.s 0)) false false [0], cd (some 18) false none (.mv (.s 5)) false false [5], cd (some 19) false none (.ixp 3 (.s 17) (.s 18)) false false [17, 18], cd (some 20) false none (.ld true 3 (.s 19)) false false [19], cd (some 21) false none (.mv (.s 1)) false false [1], cd (some 22) false none (.mv (.s 5)) false false [5], cd (some 23) false none (.ixp 3 (.s 21) (.s 22)) false false [21, 22], cd (some 24) false none (.ld true 3 (.s 23)) false false [23], cd (some 25) true none (.bin .neq (.flat [0, 0, 0]) (.s 20) (.s 24)) false false [20, 24]] [0, 1, 5, 25] []) (.ite (.s 25) (.seq (R [cb 4 (.tk (.c (kb false)))] [4]) (.ret)) (.skip)))) (R [c0 15 (.mv (.s 5)), c0 16 (.bin .add .any (.s 15) (.c (ki .i64 1))), c0 5 (.tk (.s 16))] [0, 1, 5])))))) (.seq (R [cb 4 (.tk (.c (kb true)))] [4]) (.ret))))
theorem fun43 : Fun Try.prog cfg 43 26 cd43 [.s 4] := ⟨rfl, Try.f43, _, Try.func43, rfl, rfl, by kernel_rfl, by kernel_rfl⟩
@[go_sem] theorem ok43 : calleeOK Try.prog 43 = true := by kernel_rfl
@[go_sem] theorem ex43 : (cfg.ext 43).isSome = false := rfl
variable {h : DHeap}
/-- How much there is of a snap, as the law counts it. -/
def wr (n : Int) : Int := IntKind.wrap .i64 n
def stP (n : Int) (e : PEnt) : Int := wr (wr (n + (e.path.length : Nat)) + (e.value.length : Nat))
def stT (n : Int) (s : Str) : Int := wr (n + (s.length : Nat))
def smT (l : List Str) (k : Nat) (n : Int) : Int := (l.take k).foldl stT n
def stS (n : Int) (e : PSes) : Int := smT e.names (min e.names.length 3000) (wr (wr (n + (e.value.length : Nat)) + (e.names.length : Nat)))
def smP (l : List PEnt) (k : Nat) (n : Int) : Int := (l.take k).foldl stP n
def smS (l : List PSes) (k : Nat) (n : Int) : Int := (l.take k).foldl stS n
theorem fold_succ {α : Type} (f : Int → α → Int) (l : List α) (k : Nat) (n : Int) (hk : k < l.length) : (l.take (k + 1)).foldl f n = f ((l.take k).foldl f n) l[k] := by
  rw [List.take_succ_eq_append_getElem hk, List.foldl_append]; rfl
def snapN (s : Snp) : Int := smS s.sess (min s.sess.length 3000) (smP s.paths (min s.paths.length 3000) (wr (wr ((s.con.nodes.length : Nat) + (s.paths.length : Nat)) + (s.sess.length : Nat))))
set_option maxHeartbeats 2000000 in
theorem snap_lim (s : Snp) : lim Try.prog cfg 46 [.agg [vi s.con.epoch, .list false 1 (vnums s.con.nodes), .list false 3 (pes s.paths), .list false 6 (pss s.sess)]] h = some (vb (decide (snapN s < 3000)), h) := by
  refine lim_funp fun46 rfl (by simp) (by simp [heapFree, heapFree.all, free_vnums, free_pes, free_pss]) rfl ?_
  delta cd46
  obtain ⟨⟨ep, nodes⟩, paths, sess⟩ := s
  dsimp only
  simp -implicitDefEqProofs -dsimp only [go_sem]
  have W0 : ∀ z : Int, IntKind.wrap .i64 z = wr z := fun _ => rfl
  generalize hn0 : wr (wr ((nodes.length : Nat) + (paths.length : Nat)) + (sess.length : Nat)) = n0
  have hn0' : IntKind.wrap .i64 (IntKind.wrap .i64 ((nodes.length : Nat) + (paths.length : Nat)) + (sess.length : Nat)) = n0 := hn0
  rw [hn0']
  have hN : snapN ⟨⟨ep, nodes⟩, paths, sess⟩ = smS sess (min sess.length 3000) (smP paths (min paths.length 3000) n0) := by rw [← hn0]; rfl
  rw [hN]
  refine wp_for (σ := Nat) (fun k => [(1, .box [vi ep, .list false 1 (vnums nodes), .list false 3 (pes paths), .list false 6 (pss sess)]), (3, vi (smP paths k n0)), (4, vi (k : Nat))]) (fun _ => []) (fun k => paths.length - k) (fun k => k ≤ paths.length ∧ k ≤ 3000) 0 ⟨Nat.zero_le _, Nat.zero_le _⟩ rfl rfl ?_
  rintro k ⟨hk, hk2⟩ N hN
  by_cases h1 : k < paths.length ∧ k < 3000
  · obtain ⟨h1, h2⟩ := h1
    have d1 : (k : Int) < (paths.length : Int) := by omega
    have d2 : (k : Int) < 3000 := by omega
    have e := fold_succ stP paths k n0 h1
    simp -implicitDefEqProofs -dsimp only [go_sem, d1, d2, h1]
    refine hN (k + 1) _ (by omega) ⟨by omega, by omega⟩ ?_
    simp -implicitDefEqProofs -dsimp only [go_sem, wrap_succ (show k < 9223372036854775807 by omega)]
    rw [show smP paths (k + 1) n0 = stP (smP paths k n0) paths[k] from e]
    rfl
  have hk3 : k = min paths.length 3000 := by omega
  generalize hn1 : smP paths (min paths.length 3000) n0 = n1
  rw [← hk3] at hn1
  have hex : ((k : Int) < (paths.length : Int)) = False ∨ (((k : Int) < (paths.length : Int)) = True ∧ ((k : Int) < 3000) = False) := by
    by_cases q : k < paths.length
    · exact .inr ⟨eq_true (by omega), eq_false (by omega)⟩
    · exact .inl (eq_false (by omega))
  clear hk hk2 h1 hN hk3 hn0 hn0'
  rcases hex with d1 | ⟨d1, d2⟩
  case' inr => simp -implicitDefEqProofs -dsimp only [go_sem, d1, d2, hn1]
  case' inl => simp -implicitDefEqProofs -dsimp only [go_sem, d1, hn1]
  all_goals
    refine wp_for (σ := Nat) (fun k => [(1, .box [vi ep, .list false 1 (vnums nodes), .list false 3 (pes paths), .list false 6 (pss sess)]), (3, vi (smS sess k n1)), (5, vi (k : Nat))]) (fun _ => []) (fun k => sess.length - k) (fun k => k ≤ sess.length ∧ k ≤ 3000) 0 ⟨Nat.zero_le _, Nat.zero_le _⟩ rfl rfl ?_
    rintro k ⟨hk, hk2⟩ N hN
    by_cases h1 : k < sess.length ∧ k < 3000
    · obtain ⟨h1, h2⟩ := h1
      have d1 : (k : Int) < (sess.length : Int) := by omega
      have d2 : (k : Int) < 3000 := by omega
      simp -implicitDefEqProofs -dsimp only [go_sem, d1, d2, h1]
      generalize hm0 : IntKind.wrap .i64 (IntKind.wrap .i64 (smS sess k n1 + (sess[k].value.length : Nat)) + (sess[k].names.length : Nat)) = m0
      refine wp_for (σ := Nat) (fun q => [(1, .box [vi ep, .list false 1 (vnums nodes), .list false 3 (pes paths), .list false 6 (pss sess)]), (3, vi (smT sess[k].names q m0)), (5, vi (k : Nat)), (6, vi (q : Nat))]) (fun _ => []) (fun q => sess[k].names.length - q) (fun q => q ≤ sess[k].names.length ∧ q ≤ 3000) 0 ⟨Nat.zero_le _, Nat.zero_le _⟩ rfl rfl ?_
      rintro q ⟨hq, hq2⟩ M hM
      by_cases g1 : q < sess[k].names.length ∧ q < 3000
      · obtain ⟨g1, g2⟩ := g1
        have f1 : (q : Int) < (sess[k].names.length : Int) := by omega
        have f2 : (q : Int) < 3000 := by omega
        have e := fold_succ stT sess[k].names q m0 g1
        simp -implicitDefEqProofs -dsimp only [go_sem, h1, f1, f2, g1]
        refine hM (q + 1) _ (by omega) ⟨by omega, by omega⟩ ?_
        simp -implicitDefEqProofs -dsimp only [go_sem, wrap_succ (show q < 9223372036854775807 by omega)]
        rw [show smT sess[k].names (q + 1) m0 = stT (smT sess[k].names q m0) sess[k].names[q] from e]
        rfl
      have hq3 : q = min sess[k].names.length 3000 := by omega
      have es : smS sess (k + 1) n1 = smT sess[k].names q m0 := by
        rw [show smS sess (k + 1) n1 = stS (smS sess k n1) sess[k] from fold_succ stS sess k n1 h1, hq3, ← hm0]
        rfl
      have hex2 : ((q : Int) < (sess[k].names.length : Int)) = False ∨ (((q : Int) < (sess[k].names.length : Int)) = True ∧ ((q : Int) < 3000) = False) := by
        by_cases z : q < sess[k].names.length
        · exact .inr ⟨eq_true (by omega), eq_false (by omega)⟩
        · exact .inl (eq_false (by omega))
      rcases hex2 with f1 | ⟨f1, f2⟩
      · simp -implicitDefEqProofs -dsimp only [go_sem, h1, f1]
        refine hN (k + 1) _ (by omega) ⟨by omega, by omega⟩ ?_
        simp -implicitDefEqProofs -dsimp only [go_sem, wrap_succ (show k < 9223372036854775807 by omega), es]
      · simp -implicitDefEqProofs -dsimp only [go_sem, h1, f1, f2]
        refine hN (k + 1) _ (by omega) ⟨by omega, by omega⟩ ?_
        simp -implicitDefEqProofs -dsimp only [go_sem, wrap_succ (show k < 9223372036854775807 by omega), es]
    have hk3 : k = min sess.length 3000 := by omega
    have hex : ((k : Int) < (sess.length : Int)) = False ∨ (((k : Int) < (sess.length : Int)) = True ∧ ((k : Int) < 3000) = False) := by
      by_cases q : k < sess.length
      · exact .inr ⟨eq_true (by omega), eq_false (by omega)⟩
      · exact .inl (eq_false (by omega))
    rcases hex with d1 | ⟨d1, d2⟩
    · simp -implicitDefEqProofs -dsimp only [go_sem, d1]
      rw [hk3]
      simp
    · simp -implicitDefEqProofs -dsimp only [go_sem, d1, d2]
      rw [hk3]
      simp
def fewB (m : Mes) : Bool := decide (wr (wr ((m.ins.cmd.path.length : Nat) + (m.ins.cmd.value.length : Nat)) + (m.ins.att.deps.length : Nat)) < 3000) && decide (snapN m.snap < 3000)
theorem few15_lim (m : Mes) : lim Try.prog cfg 27 [mesD m] h = some (vb (fewB m), h) := by
  refine lim_funp fun27 rfl (by simp) (by simp [heapFree, heapFree.all, free_vnums, free_pes, free_pss, free_idr]) rfl ?_
  delta cd27
  have e1 := snap_lim (h := []) m.snap
  have W0 : ∀ z : Int, IntKind.wrap .i64 z = wr z := fun _ => rfl
  unfold fewB
  cases c2 : decide (snapN m.snap < 3000) <;> rw [c2] at e1 <;> simp -implicitDefEqProofs -dsimp only [go_sem, e1, W0] <;> simp
def badM (m : Mes) : Bool := !fewB m || decide (60 < m.ins.att.deps.length) || decide (300 < m.ins.cmd.path.length) || decide (300 < m.ins.cmd.value.length)
def overM (l : List Mes) : Bool := (l.take 41).any badM || decide (40 < l.length)
theorem overM_ok {l : List Mes} (h : overM l = false) : l.length ≤ 40 ∧ ∀ m ∈ l, MesOK m := by
  simp only [overM, Bool.or_eq_false_iff, decide_eq_false_iff_not] at h
  have hl : l.length ≤ 40 := by omega
  refine ⟨hl, fun m hm => ?_⟩
  rw [List.take_of_length_le (by omega)] at h
  have := List.any_eq_false.1 h.1 m hm
  simp only [badM, Bool.or_eq_true, decide_eq_true_eq, not_or] at this
  exact ⟨by omega, by omega⟩
theorem mess_at {l : List Mes} {k : Nat} (hk : k < l.length) (N : List DV → Prop) : IdxP (mess l) (Nf (k : Int)) N = N (mesL l[k]) := by
  show IdxP (mess l) (k : Int) N = N (mesL l[k])
  rw [idxP_mess]
  simp [IdxP, hk]
set_option maxHeartbeats 2000000 in
theorem over15_lim (own : Bool) (l : List Mes) : lim Try.prog cfg 9 [.list own 27 (mess l)] h = some (vb (overM l), h) := by
  refine lim_funp fun9 rfl (by simp) (by simp [heapFree, heapFree.all, free_mess]) rfl ?_
  delta cd9
  simp -implicitDefEqProofs -dsimp only [go_sem]
  refine wp_for (σ := Nat) (fun k => [(0, .list false 27 (mess l)), (3, vi (k : Nat))]) (fun _ => []) (fun k => l.length - k) (fun k => k ≤ l.length ∧ k ≤ 41 ∧ (l.take k).any badM = false) 0 (by simp) rfl rfl ?_
  rintro k ⟨hk, hk2, hj⟩ N hN
  by_cases hlt : k < l.length
  · have h1 : ((k : Int) < (l.length : Int)) := by omega
    by_cases h40 : k ≤ 40
    · have h2 : ((k : Int) ≤ 40) := by omega
      have hs := List.take_succ_eq_append_getElem hlt
      have o1 := few15_lim (h := []) l[k]
      have q := fun N => mess_at hlt N
      cases hb : badM l[k] with
      | true =>
        have ho : overM l = true := by
          have : (l.take 41).any badM = true := by
            rw [List.any_eq_true]
            exact ⟨l[k], List.mem_take_iff_getElem.2 ⟨k, by omega, rfl⟩, hb⟩
          simp [overM, this]
        rw [ho]
        cases b0 : fewB l[k] with
        | false =>
          rw [b0] at o1
          simp -implicitDefEqProofs -dsimp (maxSteps := 1000000) only [go_sem, ↓q, h1, h2, o1]
        | true =>
        rw [b0] at o1
        by_cases b1 : 60 < l[k].ins.att.deps.length
        · have b1' : (60 : Int) < (l[k].ins.att.deps.length : Int) := by omega
          simp -implicitDefEqProofs -dsimp (maxSteps := 1000000) only [go_sem, ↓q, h1, h2, o1, b1']
        have b1' : ¬ (60 : Int) < (l[k].ins.att.deps.length : Int) := by omega
        by_cases b2 : 300 < l[k].ins.cmd.path.length
        · have b2' : (300 : Int) < (l[k].ins.cmd.path.length : Int) := by omega
          simp -implicitDefEqProofs -dsimp (maxSteps := 1000000) only [go_sem, ↓q, h1, h2, o1, b1', b2']
        have b2' : ¬ (300 : Int) < (l[k].ins.cmd.path.length : Int) := by omega
        have b3' : (300 : Int) < (l[k].ins.cmd.value.length : Int) := by
          simp only [badM, b0, b1, b2, decide_false, Bool.not_true, Bool.false_or, Bool.or_false, decide_eq_true_eq] at hb
          omega
        simp -implicitDefEqProofs -dsimp (maxSteps := 1000000) only [go_sem, ↓q, h1, h2, o1, b1', b2', b3']
      | false =>
        have hb' := hb
        simp only [badM, Bool.or_eq_false_iff, decide_eq_false_iff_not, Bool.not_eq_false'] at hb'
        obtain ⟨⟨⟨b0, b1⟩, b2⟩, b3⟩ := hb'
        have b1' : ¬ (60 : Int) < (l[k].ins.att.deps.length : Int) := by omega
        have b2' : ¬ (300 : Int) < (l[k].ins.cmd.path.length : Int) := by omega
        have b3' : ¬ (300 : Int) < (l[k].ins.cmd.value.length : Int) := by omega
        rw [b0] at o1
        simp -implicitDefEqProofs -dsimp (maxSteps := 1000000) only [go_sem, ↓q, h1, h2, b1', o1, b2', b3']
        refine hN (k + 1) _ (by omega) ⟨by omega, by omega, ?_⟩ ?_
        · rw [hs, List.any_append, hj]; simpa using hb
        · simp -implicitDefEqProofs -dsimp only [go_sem, wrap_succ (show k < 9223372036854775807 by omega)]
    · have h2 : ¬ ((k : Int) ≤ 40) := by omega
      have h3 : (40 : Int) < (l.length : Int) := by omega
      have ho : overM l = true := by
        unfold overM
        rw [decide_eq_true (by omega), Bool.or_true]
      simp -implicitDefEqProofs -dsimp only [go_sem, h1, h2, h3, ho]
  · have h1 : ¬ ((k : Int) < (l.length : Int)) := by omega
    have : k = l.length := by omega
    subst this
    rw [List.take_length] at hj
    have h3 : ¬ (40 : Int) < (l.length : Int) ∨ (40 : Int) < (l.length : Int) := by omega
    have ho : overM l = decide (40 < l.length) := by
      unfold overM
      have : (l.take 41).any badM = false := by
        rw [List.any_eq_false] at hj ⊢
        exact fun x hx => hj x (List.mem_of_mem_take hx)
      rw [this, Bool.false_or]
    rw [ho]
    rcases h3 with h3 | h3
    · rw [decide_eq_false (by omega)]
      simp -implicitDefEqProofs -dsimp only [go_sem, h1, h3]
    · rw [decide_eq_true (by omega)]
      simp -implicitDefEqProofs -dsimp only [go_sem, h1, h3]
theorem row_self (o1 o2 : Bool) (l : List Id) (hl : l.length ≤ 1099511627776) : lim Try.prog cfg 43 [.list o1 3 (idr l), .list o2 3 (idr l)] h = some (vb true, h) := by
  refine lim_funp fun43 rfl (by simp) (by simp [heapFree, heapFree.all, free_idr]) rfl ?_
  delta cd43
  simp -implicitDefEqProofs -dsimp only [go_sem]
  refine wp_for (σ := Nat) (fun k => [(0, .list false 3 (idr l)), (1, .list false 3 (idr l)), (5, vi (k : Nat))]) (fun _ => []) (fun k => l.length - k) (fun k => k ≤ l.length) 0 (by simp) rfl rfl ?_
  rintro k hk N hN
  by_cases hlt : k < l.length
  · have h1 : ((k : Int) < (l.length : Int)) := by omega
    simp -implicitDefEqProofs -dsimp only [go_sem, h1, hlt, nat_nn9]
    refine hN (k + 1) _ (by omega) (by omega) ?_
    simp -implicitDefEqProofs -dsimp only [go_sem, wrap_succ (show k < 9223372036854775807 by omega)]
  · have h1 : ¬ ((k : Int) < (l.length : Int)) := by omega
    simp -implicitDefEqProofs -dsimp only [go_sem, h1]
end Go.DS

/-
  Leads: plain.
-/
namespace Go.DS
open Go
set_option linter.unusedVariables false
/-- A lead. rw: its votes are nil, as when it was made. -/
structure Ld where
  con : Con
  node : Int
  id : Id
  bal : Bal
  btn : Bal
  ph : Int
  first : Bool
  cmd : Cmd
  att : Att
  vo : List (Int × Ins)
  rw : Bool
def newL (c : Con) (node : Int) (id : Id) (cmd : Cmd) (a : Att) : Ld := ⟨c, node, id, ⟨0, id.n⟩, ⟨0, 0⟩, 0, true, cmd, a, [], true⟩
def takeL (c : Con) (node : Int) (id : Id) (b : Bal) : Ld := ⟨c, node, id, b, ⟨0, 0⟩, 2, false, cmd0, att0, [], true⟩
def overL (L : Ld) : Bool := decide (L.ph = 3) || decide (L.ph = 4)
def heardL (L : Ld) (n : Int) : Bool := L.vo.any fun v => decide (v.1 = n)
def waitL (L : Ld) : List Int := if overL L then [] else L.con.nodes.filter fun n => !heardL L n
def ballotL (L : Ld) : Bal := if L.ph = 4 then L.btn else L.bal
def turnL (L : Ld) (p : Int) (c : Cmd) (a : Att) : Ld := { L with ph := p, cmd := c, att := a, first := false, vo := [], rw := false }
def hereP (nodes who : List Int) : Nat := (nodes.filter fun x => decide (x ∈ who)).length
def quorumP (n : Nat) : Nat := if n < 1 then 0 else n / 2 + 1
def enoughL (L : Ld) : Bool := decide (quorumP L.con.nodes.length ≤ hereP L.con.nodes (L.vo.map (·.1)))
def attrsL (L : Ld) : List Att := L.vo.map (·.2.att)
def firstB (id : Id) : Bal := ⟨0, id.n⟩
def mostB (a b : Bal) : Bal := if decide (a ≠ b) && lessB a b then b else a
def nextB (b : Bal) (n : Int) : Bal := ⟨IntKind.wrap .i64 (b.no + 1), n⟩
def proposedL (L : Ld) : Bool × Ld :=
  if L.first && !(attrsL L).any (fun a => !sameA a L.att) then (if (waitL L).length = 0 then (true, turnL L 3 L.cmd L.att) else (false, L))
  else if enoughL L then (true, turnL L 1 L.cmd (allA (attrsL L))) else (false, L)
def moreP (s : Ins × Bool) (x : Ins) : Bool := !s.2 || lessB s.1.vot x.vot || (decide (s.1.vot = x.vot) && decide (s.1.st < x.st))
def bestL (l : List (Int × Ins)) : Ins × Bool := l.foldl (fun s v => if decide (1 ≤ v.2.st) && moreP s v.2 then (v.2, true) else s) (ins0, false)
def oddL (L : Ld) (x : Ins) (v : Int × Ins) : Bool := decide (v.2.st ≠ 1) || decide (v.2.vot ≠ firstB L.id) || decide (v.2.cmd ≠ x.cmd)
end Go.DS

/-
  Walks: whom a lead heard, by the settings with no function of the library.
-/
namespace Go.DS
open Go Go.Proofs
set_option maxRecDepth 100000
set_option linter.unusedVariables false
set_option linter.unusedSimpArgs false
abbrev insV (x : Ins) : List DV := [vi x.st, vi x.pro.no, vi x.pro.node, vi x.vot.no, vi x.vot.node, vi x.cmd.client, vi x.cmd.seq, vi x.cmd.op, vs x.cmd.path, vs x.cmd.value, vi x.cmd.version, vi x.cmd.a, vi x.cmd.b, vi x.att.seq, .list false 3 (idr x.att.deps)]
def vots (l : List (Int × Ins)) : List (List DV) := l.map fun v => [vi v.1, vi v.2.st, vi v.2.pro.no, vi v.2.pro.node, vi v.2.vot.no, vi v.2.vot.node, vi v.2.cmd.client, vi v.2.cmd.seq, vi v.2.cmd.op, vs v.2.cmd.path, vs v.2.cmd.value, vi v.2.cmd.version, vi v.2.cmd.a, vi v.2.cmd.b, vi v.2.att.seq, .list false 3 (idr v.2.att.deps)]
abbrev votA (v : Int × Ins) : DV := .agg [vi v.1, vi v.2.st, vi v.2.pro.no, vi v.2.pro.node, vi v.2.vot.no, vi v.2.vot.node, vi v.2.cmd.client, vi v.2.cmd.seq, vi v.2.cmd.op, vs v.2.cmd.path, vs v.2.cmd.value, vi v.2.cmd.version, vi v.2.cmd.a, vi v.2.cmd.b, vi v.2.att.seq, .list false 3 (idr v.2.att.deps)]
@[go_sem] theorem vots_len (l : List (Int × Ins)) : (vots l).length = l.length := by simp [vots]
theorem vot_at {l : List (Int × Ins)} {k : Nat} (hk : k < l.length) (N : List DV → Prop) : IdxP (vots l) (Nf (k : Int)) N = N [vi l[k].1, vi l[k].2.st, vi l[k].2.pro.no, vi l[k].2.pro.node, vi l[k].2.vot.no, vi l[k].2.vot.node, vi l[k].2.cmd.client, vi l[k].2.cmd.seq, vi l[k].2.cmd.op, vs l[k].2.cmd.path, vs l[k].2.cmd.value, vi l[k].2.cmd.version, vi l[k].2.cmd.a, vi l[k].2.cmd.b, vi l[k].2.att.seq, .list false 3 (idr l[k].2.att.deps)] := by
  show IdxP (vots l) (k : Int) N = _
  unfold vots
  rw [idxP_map]
  simp [IdxP, hk]
abbrev votD (L : Ld) : DV := if L.rw = true then .sc (.slice none 0 0) else .list true 16 (vots L.vo)
abbrev cellsL (L : Ld) (v : DV) : List DV := [vi L.con.epoch, .list false 1 (vnums L.con.nodes), vi L.node, vi L.id.e, vi L.id.n, vi L.id.k, vi L.bal.no, vi L.bal.node, vi L.btn.no, vi L.btn.node, vi L.ph, vb L.first, vi L.cmd.client, vi L.cmd.seq, vi L.cmd.op, vs L.cmd.path, vs L.cmd.value, vi L.cmd.version, vi L.cmd.a, vi L.cmd.b, vi L.att.seq, .list false 3 (idr L.att.deps), v]
structure AtL (h : DHeap) (i : Nat) (L : Ld) : Prop where
  o : h[i]? = some (.cells (cellsL L (votD L)))
  nil : L.rw = true → L.vo = []
theorem AtL.obj {h : DHeap} {i : Nat} {L : Ld} (H : AtL h i L) (N : List DV → Prop) : ObjP h i N = N (cellsL L (votD L)) := by simp only [ObjP, H.o]
theorem AtL.lt {h : DHeap} {i : Nat} {L : Ld} (H : AtL h i L) : i < h.length := (List.getElem?_eq_some_iff.1 H.o).1
abbrev votBox (v : Int × Ins) : DV := .box [vi v.1, vi v.2.st, vi v.2.pro.no, vi v.2.pro.node, vi v.2.vot.no, vi v.2.vot.node, vi v.2.cmd.client, vi v.2.cmd.seq, vi v.2.cmd.op, vs v.2.cmd.path, vs v.2.cmd.value, vi v.2.cmd.version, vi v.2.cmd.a, vi v.2.cmd.b, vi v.2.att.seq, .list false 3 (idr v.2.att.deps)]
namespace M0
noncomputable abbrev cfg : Cfg := cfg0
def cd60 : Cd := .seq (R [c0 4 (.tk (.c (ki .i64 0)))] [0, 1]) (.seq (.seq (R [c0 6 (.mv (.s 0)), c0 7 (.len 1 (.s 6)), c0 8 (.mv (.c (ki .i64 0)))] [0, 1, 7, 8]) (.block 0 (LP [0, 1, 7, 8] (.seq (R [c0 9 (.bin .lss .any (.s 8) (.s 7))] [0, 1, 7, 8, 9]) (.seq (.ite (.s 9) (.skip) (.exit 0)) (.seq (.block 1 (.seq (R [c0 10 (.mv (.s 8)), c0 5 (.tk (.s 10))] [0, 1, 5, 7, 8]) (.seq (R [c0 11 (.mv (.s 1)), c0 12 (.mv (.s 0)), c0 13 (.mv (.s 5)), c0 14 (.ixp 16 (.s 12) (.s 13)), c0 15 (.ld true 16 (.s 14)), cb 16 (.call none (.s 11) [(.s 15)])] [0, 1, 5, 7, 8, 16]) (.ite (.s 16) (.seq (R [c0 17 (.mv (.s 5)), c0 4 (.tk (.s 17))] [4]) (.ret)) (.skip))))) (R [c0 18 (.bin .add .any (.s 8) (.c (ki .i64 1))), c0 8 (.mv (.s 18))] [0, 1, 7, 8]))))))) (.seq (R [c0 4 (.tk (.c (ki .i64 (-1))))] [4]) (.ret)))
theorem fun60 : Fun Try.prog cfg 60 19 cd60 [.s 4] := ⟨rfl, Try.f60, _, Try.func60, rfl, rfl, by kernel_rfl, by kernel_rfl⟩
@[go_sem] theorem ok60 : calleeOK Try.prog 60 = true := by kernel_rfl
@[go_sem] theorem ex60 : (cfg.ext 60).isSome = false := rfl
def cd48 : Cd := .seq (R [cb 4 (.tk (.c (kb false)))] [0, 1]) (.seq (R [c0 5 (.mv (.s 0)), c0 6 (.mv (.s 1)), c0 7 (.call none (.c (kf 60)) [(.s 5), (.s 6)]), cb 8 (.bin .geq .any (.s 7) (.c (ki .i64 0))), cb 4 (.tk (.s 8))] [4]) (.ret))
theorem fun48 : Fun Try.prog cfg 48 9 cd48 [.s 4] := ⟨rfl, Try.f48, _, Try.func48, rfl, rfl, by kernel_rfl, by kernel_rfl⟩
@[go_sem] theorem ok48 : calleeOK Try.prog 48 = true := by kernel_rfl
@[go_sem] theorem ex48 : (cfg.ext 48).isSome = false := rfl
def cd32 : Cd := .seq (R [c0 3 (.new false (.s 1)), cb 4 (.tk (.c (kb false)))] [0, 3]) (.seq (R [c0 5 (.mv (.s 0)), c0 6 (.mov 0 (.s 5)), c0 7 (.mov 22 (.s 6)), c0 8 (.ld false 18 (.s 7)), c0 9 (.mkf (.func 49) 0 [(.s 3)]), cb 10 (.call none (.c (kf 48)) [(.s 8), (.s 9)]), cb 4 (.tk (.s 10))] [3, 4]) (.ret))
theorem fun32 : Fun Try.prog cfg 32 11 cd32 [.s 4] := ⟨rfl, Try.f32, _, Try.func32, rfl, rfl, by kernel_rfl, by kernel_rfl⟩
@[go_sem] theorem ok32 : calleeOK Try.prog 32 = true := by kernel_rfl
@[go_sem] theorem ex32 : (cfg.ext 32).isSome = false := rfl
def cd49 : Cd := .seq (R [c0 2 (.new false (.s 0)), cb 3 (.tk (.c (kb false)))] [1, 2]) (.seq (R [c0 4 (.mov 0 (.s 2)), c0 5 (.ld false 1 (.s 4)), c0 6 (.ld false 1 (.s 1)), cb 7 (.bin .eql .any (.s 5) (.s 6)), cb 3 (.tk (.s 7))] [2, 3]) (.ret))
theorem fun49 : Fun Try.prog cfg 49 8 cd49 [.s 3] := ⟨rfl, Try.f49, _, Try.func49, rfl, rfl, by kernel_rfl, by kernel_rfl⟩
@[go_sem] theorem ok49 : calleeOK Try.prog 49 = true := by kernel_rfl
@[go_sem] theorem ex49 : (cfg.ext 49).isSome = false := rfl
def cd29 : Cd := .seq (R [cb 2 (.tk (.c (kb false)))] [0]) (.seq (R [c0 3 (.mv (.s 0)), c0 4 (.mov 0 (.s 3)), c0 5 (.mov 10 (.s 4)), c0 6 (.ld false 1 (.s 5)), cb 7 (.bin .eql .any (.s 6) (.c (ki .i64 3))), cb 8 (.mv (.s 7)), cg 9 8 false (.mv (.s 0)), cg 10 8 false (.mov 0 (.s 9)), cg 11 8 false (.mov 10 (.s 10)), cg 12 8 false (.ld false 1 (.s 11)), ch 13 8 false (.bin .eql .any (.s 12) (.c (ki .i64 4))), cb 14 (.pick (.s 8) (.c (kb true)) (.s 13)), cb 2 (.tk (.s 14))] [2]) (.ret))
theorem fun29 : Fun Try.prog cfg 29 15 cd29 [.s 2] := ⟨rfl, Try.f29, _, Try.func29, rfl, rfl, by kernel_rfl, by kernel_rfl⟩
@[go_sem] theorem ok29 : calleeOK Try.prog 29 = true := by kernel_rfl
@[go_sem] theorem ex29 : (cfg.ext 29).isSome = false := rfl
def cd42 : Cd := .seq (R [c0 2 (.tk (.c (kn 2)))] [0, 5]) (.seq (R [c0 3 (.tk (.c (kn 2)))] [0, 3, 5]) (.seq (.seq (R [c0 6 (.mv (.s 0)), c0 7 (.mov 0 (.s 6)), c0 8 (.mov 22 (.s 7)), c0 9 (.ld false 18 (.s 8)), c0 10 (.len 1 (.s 9)), c0 11 (.mv (.c (ki .i64 0)))] [3, 5, 9, 10, 11]) (.block 0 (LP [3, 5, 9, 10, 11] (.seq (R [c0 12 (.bin .lss .any (.s 11) (.s 10))] [3, 5, 9, 10, 11, 12]) (.seq (.ite (.s 12) (.skip) (.exit 0)) (.seq (.block 1 (.seq (R [c0 13 (.ixp 16 (.s 9) (.s 11)), c0 14 (.ld true 16 (.s 13)), c0 5 (.new false (.c (.agg [ki .i64 0, ki .i64 0, ki .i64 0, ki .i64 0, ki .i64 0, ki .i64 0, ki .i64 0, ki .i64 0, ki .i64 0, ks [], ks [], ki .i64 0, ki .i64 0, ki .i64 0, ki .i64 0, kn 3]))), cn (.st 16 (.s 5) (.s 14))] [3, 5, 9, 10, 11]) (R [c0 15 (.tk (.s 3)), c0 16 (.mov 1 (.s 5)), c0 17 (.mov 13 (.s 16)), c0 18 (.ld true 2 (.s 17)), c0 19 (.bsl 2 [(.s 18)]), c0 20 (.app 2 35 false (.s 15) (.s 19)), c0 3 (.tk (.s 20))] [3, 5, 9, 10, 11]))) (R [c0 21 (.bin .add .any (.s 11) (.c (ki .i64 1))), c0 11 (.mv (.s 21))] [3, 5, 9, 10, 11]))))))) (.seq (R [c0 22 (.tk (.s 3)), c0 2 (.tk (.s 22))] [2, 5]) (.ret))))
theorem fun42 : Fun Try.prog cfg 42 23 cd42 [.s 2] := ⟨rfl, Try.f42, _, Try.func42, rfl, rfl, by kernel_rfl, by kernel_rfl⟩
@[go_sem] theorem ok42 : calleeOK Try.prog 42 = true := by kernel_rfl
@[go_sem] theorem ex42 : (cfg.ext 42).isSome = false := rfl
variable {h : DHeap}
theorem idxV_lim (own : Bool) (l : List (Int × Ins)) (k : FuncId) (fs cs : List DV) (F : Int × Ins → Bool) (hok : calleeOK Try.prog k = true)
    (hF : ∀ v ∈ l, lim Try.prog cfg k (fs ++ [votA v] ++ cs) h = some (vb (F v), h)) (hl : l.length ≤ 1099511627776) :
    lim Try.prog cfg 60 [.list own 16 (vots l), .fn (.func k) fs cs] h = some (vi (posI F l), h) := by
  refine lim_fun fun60 rfl (by simp) rfl ?_
  delta cd60
  simp -implicitDefEqProofs -dsimp only [go_sem]
  refine wp_for (σ := Nat) (fun i => [(0, .list false 16 (vots l)), (1, .fn (.func k) fs cs), (7, vi (l.length : Nat)), (8, vi (i : Nat))]) (fun _ => h) (fun i => l.length - i) (fun i => i ≤ l.length ∧ ∀ j (hl : j < l.length), j < i → F l[j] = false) 0 (by simp) rfl rfl ?_
  rintro i ⟨hi, hj⟩ N hN
  by_cases h2 : i < l.length
  · have h1 : (i : Int) < (l.length : Int) := by omega
    have q := fun N => vot_at h2 N
    have hf := hF l[i] (List.getElem_mem h2)
    cases hc : F l[i] with
    | true =>
      rw [hc] at hf
      have e := posI_at (p := F) h2 hc hj
      simp -implicitDefEqProofs -dsimp only [go_sem, ↓q, h1, hok, hf, e]
    | false =>
      rw [hc] at hf
      simp -implicitDefEqProofs -dsimp only [go_sem, ↓q, h1, hok, hf]
      refine hN (i + 1) _ (by omega) ⟨by omega, fun j hjl hji => ?_⟩ (by simp -implicitDefEqProofs -dsimp only [go_sem, wrap_succ (show i < 9223372036854775807 by omega)])
      by_cases hij : j = i
      · subst hij; exact hc
      · exact hj j hjl (by omega)
  · have h1 : ¬ (i : Int) < (l.length : Int) := by omega
    have e := posI_no (p := F) (l := l) fun j hjl => hj j hjl (by omega)
    simp -implicitDefEqProofs -dsimp only [go_sem, h1, e]
theorem conV_lim (own : Bool) (l : List (Int × Ins)) (k : FuncId) (fs cs : List DV) (F : Int × Ins → Bool) (hok : calleeOK Try.prog k = true) (hp : fs.all DV.plain = true) (hp2 : cs.all DV.plain = true)
    (hF : ∀ v ∈ l, lim Try.prog cfg k (fs ++ [votA v] ++ cs) h = some (vb (F v), h)) (hl : l.length ≤ 1099511627776) :
    lim Try.prog cfg 48 [.list own 16 (vots l), .fn (.func k) fs cs] h = some (vb (l.any F), h) := by
  refine lim_fun fun48 rfl (by simp) rfl ?_
  delta cd48
  have hx := idxV_lim (h := h) false l k fs cs F hok hF hl
  have e := posI_ge F l
  simp -implicitDefEqProofs -dsimp only [go_sem, hx]
  rw [← e]
  exact ⟨fun h1 => by simp [h1], fun h1 => by simp [h1]⟩
theorem heard1_lim (v : Int × Ins) (n : Int) : lim Try.prog cfg 49 [votA v, .eptr [vi n]] h = some (vb (decide (v.1 = n)), h) := by
  refine lim_funp fun49 rfl (by simp) (by simp [heapFree, heapFree.all, free_idr]) rfl ?_
  delta cd49
  simp -implicitDefEqProofs -dsimp only [go_sem]
  simp
theorem heard_lim {i : Nat} {L : Ld} (H : AtL h i L) (hl : L.vo.length ≤ 1000000) (n : Int) : lim Try.prog cfg 32 [.ptr i 0, vi n] h = some (vb (heardL L n), h) := by
  have e1 := fun own => conV_lim (h := h) own L.vo 49 [] [.eptr [vi n]] (fun v => decide (v.1 = n)) (by kernel_rfl) rfl rfl (fun v _ => heard1_lim v n) (by omega)
  have hn := H.nil
  have ho := H.obj
  unfold heardL
  refine lim_fun fun32 rfl (by simp) rfl ?_
  delta cd32
  cases hr : L.rw with
  | true =>
    rw [hn hr] at e1 ⊢
    have e2 : ∀ own, lim Try.prog cfg 48 [.list own 16 [], .fn (.func 49) [] [.eptr [vi n]]] h = some (vb false, h) := e1
    simp only [cellsL, votD, hr, if_true] at ho
    simp -implicitDefEqProofs -dsimp only [go_sem, ho, e2] <;> rfl
  | false =>
    simp only [cellsL, votD, hr, Bool.false_eq_true, if_false] at ho
    cases hc : L.vo.any fun v => decide (v.1 = n) <;> simp only [hc] at e1 <;> simp -implicitDefEqProofs -dsimp only [go_sem, ho, e1]
theorem overL_lim {i : Nat} {L : Ld} (H : AtL h i L) : lim Try.prog cfg 29 [.ptr i 0] h = some (vb (overL L), h) := by
  have ho := H.obj
  refine lim_fun fun29 rfl (by simp) rfl ?_
  delta cd29
  unfold overL
  by_cases c1 : L.ph = 3
  · simp -implicitDefEqProofs -dsimp only [go_sem, ho, eq_true c1] <;> simp [c1]
  · simp -implicitDefEqProofs -dsimp only [go_sem, ho, eq_false c1] <;> simp [c1]
set_option maxHeartbeats 2000000 in
theorem attrs_lim {i : Nat} {L : Ld} (H : AtL h i L) (hl : L.vo.length ≤ 100000) : lim Try.prog cfg 42 [.ptr i 0] h = some (.list true 2 (ats (attrsL L)), h) := by
  have hn := H.nil
  have ho := H.obj
  clear H
  unfold attrsL
  refine lim_fun fun42 rfl (by simp) rfl ?_
  delta cd42
  obtain ⟨con, node, id, bal, btn, ph, first, cmd, att, vo, rw⟩ := L
  dsimp only at *
  cases rw with
  | true =>
    have hv := hn rfl
    subst hv
    simp only [cellsL, votD, if_true] at ho
    simp -implicitDefEqProofs -dsimp only [go_sem, ho]
    refine wp_for (σ := Nat) (fun k => [(3, .list true 2 []), (5, .junk), (9, .list true 16 []), (10, vi 0), (11, vi 0)]) (fun _ => h) (fun k => 0) (fun k => True) 0 trivial rfl rfl ?_
    rintro k _ N hN
    simp -implicitDefEqProofs -dsimp only [go_sem] <;> rfl
  | false =>
    simp only [cellsL, votD, Bool.false_eq_true, if_false] at ho
    simp -implicitDefEqProofs -dsimp only [go_sem, ho]
    refine wp_for (σ := Nat × DV) (fun s => [(3, .list true 2 (ats ((vo.take s.1).map (·.2.att)))), (5, s.2), (9, .list false 16 (vots vo)), (10, vi (vo.length : Nat)), (11, vi (s.1 : Nat))]) (fun _ => h) (fun s => vo.length - s.1) (fun s => s.1 ≤ vo.length) (0, .junk) (Nat.zero_le _) rfl rfl ?_
    rintro ⟨k, y⟩ hk N hN
    dsimp only at hk
    by_cases hlt : k < vo.length
    · have h1 : (k : Int) < (vo.length : Int) := by omega
      have q := fun N => vot_at hlt N
      have hm : ((vo.take k).length + 1) * 35 ≤ maxLenD := by rw [List.length_take]; unfold maxLenD; omega
      have N2 := fun y => hN (k + 1, y)
      dsimp only at N2
      rw [List.take_succ_eq_append_getElem hlt, List.map_append, List.map_cons, List.map_nil] at N2
      clear hN
      simp -implicitDefEqProofs -dsimp only [go_sem, ↓q, h1, hm, List.length_map]
      refine N2 (votBox vo[k]) _ (by omega) (by omega) ?_
      simp -implicitDefEqProofs -dsimp only [go_sem, wrap_succ (show k < 9223372036854775807 by omega)]
    · have h1 : ¬ (k : Int) < (vo.length : Int) := by omega
      rw [List.take_of_length_le (by omega)]
      simp -implicitDefEqProofs -dsimp only [go_sem, h1]
end M0
end Go.DS

/-
  Walks: whom a lead heard.
-/
namespace Go.DS
open Go Go.Proofs
set_option maxRecDepth 100000
set_option linter.unusedVariables false
set_option linter.unusedSimpArgs false
def cd60 : Cd := .seq (R [c0 4 (.tk (.c (ki .i64 0)))] [0, 1]) (.seq (.seq (R [c0 6 (.mv (.s 0)), c0 7 (.len 1 (.s 6)), c0 8 (.mv (.c (ki .i64 0)))] [0, 1, 7, 8]) (.block 0 (LP [0, 1, 7, 8] (.seq (R [c0 9 (.bin .lss .any (.s 8) (.s 7))] [0, 1, 7, 8, 9]) (.seq (.ite (.s 9) (.skip) (.exit 0)) (.seq (.block 1 (.seq (R [c0 10 (.mv (.s 8)), c0 5 (.tk (.s 10))] [0, 1, 5, 7, 8]) (.seq (R [c0 11 (.mv (.s 1)), c0 12 (.mv (.s 0)), c0 13 (.mv (.s 5)), c0 14 (.ixp 16 (.s 12) (.s 13)), c0 15 (.ld true 16 (.s 14)), cb 16 (.call none (.s 11) [(.s 15)])] [0, 1, 5, 7, 8, 16]) (.ite (.s 16) (.seq (R [c0 17 (.mv (.s 5)), c0 4 (.tk (.s 17))] [4]) (.ret)) (.skip))))) (R [c0 18 (.bin .add .any (.s 8) (.c (ki .i64 1))), c0 8 (.mv (.s 18))] [0, 1, 7, 8]))))))) (.seq (R [c0 4 (.tk (.c (ki .i64 (-1))))] [4]) (.ret)))
theorem fun60 : Fun Try.prog cfg 60 19 cd60 [.s 4] := ⟨rfl, Try.f60, _, Try.func60, rfl, rfl, by kernel_rfl, by kernel_rfl⟩
@[go_sem] theorem ok60 : calleeOK Try.prog 60 = true := by kernel_rfl
@[go_sem] theorem ex60 : (cfg.ext 60).isSome = false := rfl
def cd48 : Cd := .seq (R [cb 4 (.tk (.c (kb false)))] [0, 1]) (.seq (R [c0 5 (.mv (.s 0)), c0 6 (.mv (.s 1)), c0 7 (.call none (.c (kf 60)) [(.s 5), (.s 6)]), cb 8 (.bin .geq .any (.s 7) (.c (ki .i64 0))), cb 4 (.tk (.s 8))] [4]) (.ret))
theorem fun48 : Fun Try.prog cfg 48 9 cd48 [.s 4] := ⟨rfl, Try.f48, _, Try.func48, rfl, rfl, by kernel_rfl, by kernel_rfl⟩
@[go_sem] theorem ok48 : calleeOK Try.prog 48 = true := by kernel_rfl
@[go_sem] theorem ex48 : (cfg.ext 48).isSome = false := rfl
def cd32 : Cd := .seq (R [c0 3 (.new false (.s 1)), cb 4 (.tk (.c (kb false)))] [0, 3]) (.seq (R [c0 5 (.mv (.s 0)), c0 6 (.mov 0 (.s 5)), c0 7 (.mov 22 (.s 6)), c0 8 (.ld false 18 (.s 7)), c0 9 (.mkf (.func 49) 0 [(.s 3)]), cb 10 (.call none (.c (kf 48)) [(.s 8), (.s 9)]), cb 4 (.tk (.s 10))] [3, 4]) (.ret))
theorem fun32 : Fun Try.prog cfg 32 11 cd32 [.s 4] := ⟨rfl, Try.f32, _, Try.func32, rfl, rfl, by kernel_rfl, by kernel_rfl⟩
@[go_sem] theorem ok32 : calleeOK Try.prog 32 = true := by kernel_rfl
@[go_sem] theorem ex32 : (cfg.ext 32).isSome = false := rfl
def cd49 : Cd := .seq (R [c0 2 (.new false (.s 0)), cb 3 (.tk (.c (kb false)))] [1, 2]) (.seq (R [c0 4 (.mov 0 (.s 2)), c0 5 (.ld false 1 (.s 4)), c0 6 (.ld false 1 (.s 1)), cb 7 (.bin .eql .any (.s 5) (.s 6)), cb 3 (.tk (.s 7))] [2, 3]) (.ret))
theorem fun49 : Fun Try.prog cfg 49 8 cd49 [.s 3] := ⟨rfl, Try.f49, _, Try.func49, rfl, rfl, by kernel_rfl, by kernel_rfl⟩
@[go_sem] theorem ok49 : calleeOK Try.prog 49 = true := by kernel_rfl
@[go_sem] theorem ex49 : (cfg.ext 49).isSome = false := rfl
def cd29 : Cd := .seq (R [cb 2 (.tk (.c (kb false)))] [0]) (.seq (R [c0 3 (.mv (.s 0)), c0 4 (.mov 0 (.s 3)), c0 5 (.mov 10 (.s 4)), c0 6 (.ld false 1 (.s 5)), cb 7 (.bin .eql .any (.s 6) (.c (ki .i64 3))), cb 8 (.mv (.s 7)), cg 9 8 false (.mv (.s 0)), cg 10 8 false (.mov 0 (.s 9)), cg 11 8 false (.mov 10 (.s 10)), cg 12 8 false (.ld false 1 (.s 11)), ch 13 8 false (.bin .eql .any (.s 12) (.c (ki .i64 4))), cb 14 (.pick (.s 8) (.c (kb true)) (.s 13)), cb 2 (.tk (.s 14))] [2]) (.ret))
theorem fun29 : Fun Try.prog cfg 29 15 cd29 [.s 2] := ⟨rfl, Try.f29, _, Try.func29, rfl, rfl, by kernel_rfl, by kernel_rfl⟩
@[go_sem] theorem ok29 : calleeOK Try.prog 29 = true := by kernel_rfl
@[go_sem] theorem ex29 : (cfg.ext 29).isSome = false := rfl
variable {h : DHeap}
theorem idxV_lim (own : Bool) (l : List (Int × Ins)) (k : FuncId) (fs cs : List DV) (F : Int × Ins → Bool) (hok : calleeOK Try.prog k = true)
    (hF : ∀ v ∈ l, lim Try.prog cfg k (fs ++ [votA v] ++ cs) h = some (vb (F v), h)) (hl : l.length ≤ 1099511627776) :
    lim Try.prog cfg 60 [.list own 16 (vots l), .fn (.func k) fs cs] h = some (vi (posI F l), h) := by
  refine lim_fun fun60 rfl (by simp) rfl ?_
  delta cd60
  simp -implicitDefEqProofs -dsimp only [go_sem]
  refine wp_for (σ := Nat) (fun i => [(0, .list false 16 (vots l)), (1, .fn (.func k) fs cs), (7, vi (l.length : Nat)), (8, vi (i : Nat))]) (fun _ => h) (fun i => l.length - i) (fun i => i ≤ l.length ∧ ∀ j (hl : j < l.length), j < i → F l[j] = false) 0 (by simp) rfl rfl ?_
  rintro i ⟨hi, hj⟩ N hN
  by_cases h2 : i < l.length
  · have h1 : (i : Int) < (l.length : Int) := by omega
    have q := fun N => vot_at h2 N
    have hf := hF l[i] (List.getElem_mem h2)
    cases hc : F l[i] with
    | true =>
      rw [hc] at hf
      have e := posI_at (p := F) h2 hc hj
      simp -implicitDefEqProofs -dsimp only [go_sem, ↓q, h1, hok, hf, e]
    | false =>
      rw [hc] at hf
      simp -implicitDefEqProofs -dsimp only [go_sem, ↓q, h1, hok, hf]
      refine hN (i + 1) _ (by omega) ⟨by omega, fun j hjl hji => ?_⟩ (by simp -implicitDefEqProofs -dsimp only [go_sem, wrap_succ (show i < 9223372036854775807 by omega)])
      by_cases hij : j = i
      · subst hij; exact hc
      · exact hj j hjl (by omega)
  · have h1 : ¬ (i : Int) < (l.length : Int) := by omega
    have e := posI_no (p := F) (l := l) fun j hjl => hj j hjl (by omega)
    simp -implicitDefEqProofs -dsimp only [go_sem, h1, e]
theorem conV_lim (own : Bool) (l : List (Int × Ins)) (k : FuncId) (fs cs : List DV) (F : Int × Ins → Bool) (hok : calleeOK Try.prog k = true) (hp : fs.all DV.plain = true) (hp2 : cs.all DV.plain = true)
    (hF : ∀ v ∈ l, lim Try.prog cfg k (fs ++ [votA v] ++ cs) h = some (vb (F v), h)) (hl : l.length ≤ 1099511627776) :
    lim Try.prog cfg 48 [.list own 16 (vots l), .fn (.func k) fs cs] h = some (vb (l.any F), h) := by
  refine lim_fun fun48 rfl (by simp) rfl ?_
  delta cd48
  have hx := idxV_lim (h := h) false l k fs cs F hok hF hl
  have e := posI_ge F l
  simp -implicitDefEqProofs -dsimp only [go_sem, hx]
  rw [← e]
  exact ⟨fun h1 => by simp [h1], fun h1 => by simp [h1]⟩
theorem heard1_lim (v : Int × Ins) (n : Int) : lim Try.prog cfg 49 [votA v, .eptr [vi n]] h = some (vb (decide (v.1 = n)), h) := by
  refine lim_funp fun49 rfl (by simp) (by simp [heapFree, heapFree.all, free_idr]) rfl ?_
  delta cd49
  simp -implicitDefEqProofs -dsimp only [go_sem]
  simp
theorem heard_lim {i : Nat} {L : Ld} (H : AtL h i L) (hl : L.vo.length ≤ 1000000) (n : Int) : lim Try.prog cfg 32 [.ptr i 0, vi n] h = some (vb (heardL L n), h) := by
  have e1 := fun own => conV_lim (h := h) own L.vo 49 [] [.eptr [vi n]] (fun v => decide (v.1 = n)) (by kernel_rfl) rfl rfl (fun v _ => heard1_lim v n) (by omega)
  have hn := H.nil
  have ho := H.obj
  unfold heardL
  refine lim_fun fun32 rfl (by simp) rfl ?_
  delta cd32
  cases hr : L.rw with
  | true =>
    rw [hn hr] at e1 ⊢
    have e2 : ∀ own, lim Try.prog cfg 48 [.list own 16 [], .fn (.func 49) [] [.eptr [vi n]]] h = some (vb false, h) := e1
    simp only [cellsL, votD, hr, if_true] at ho
    simp -implicitDefEqProofs -dsimp only [go_sem, ho, e2] <;> rfl
  | false =>
    simp only [cellsL, votD, hr, Bool.false_eq_true, if_false] at ho
    cases hc : L.vo.any fun v => decide (v.1 = n) <;> simp only [hc] at e1 <;> simp -implicitDefEqProofs -dsimp only [go_sem, ho, e1]
theorem overL_lim {i : Nat} {L : Ld} (H : AtL h i L) : lim Try.prog cfg 29 [.ptr i 0] h = some (vb (overL L), h) := by
  have ho := H.obj
  refine lim_fun fun29 rfl (by simp) rfl ?_
  delta cd29
  unfold overL
  by_cases c1 : L.ph = 3
  · simp -implicitDefEqProofs -dsimp only [go_sem, ho, eq_true c1] <;> simp [c1]
  · simp -implicitDefEqProofs -dsimp only [go_sem, ho, eq_false c1] <;> simp [c1]
end Go.DS

/-
  Walks: leads.
-/
namespace Go.DS
open Go Go.Proofs
set_option maxRecDepth 100000
set_option linter.unusedVariables false
set_option linter.unusedSimpArgs false
@[go_sem] theorem ok11 : calleeOK Try.prog 11 = true := by kernel_rfl
@[go_sem] theorem ex11 : (cfg.ext 11).isSome = true := rfl
def cd36 : Cd := .seq (R [c0 1 (.new false (.s 0)), c0 2 (.new false (.c (.agg [ki .i64 0, kn 3])))] [1, 2]) (.seq (RD [cd (some 3) false none (.mov 0 (.s 1)) false false [1], cd (some 4) false none (.ld false 1 (.s 3)) false false [3], cd (some 5) false none (.mov 1 (.s 1)) false false [1], cd (some 6) false none (.ld false 5 (.s 5)) false false [5], cd (some 7) false none (.call none (.c (kf 51)) [(.s 6)]) false false [6], cd (some 8) false none (.bld [ki .i64 0, kz 3] [(0, 1, (.s 4)), (1, 1, (.s 7))]) false false [4, 7], cd none false none (.st 2 (.s 2) (.s 8)) false false [2, 8]] [1, 2] [6]) (.ret))
theorem fun36 : Fun Try.prog cfg 36 9 cd36 [.b 2 true 2] := ⟨rfl, Try.f36, _, Try.func36, rfl, rfl, by kernel_rfl, by kernel_rfl⟩
@[go_sem] theorem ok36 : calleeOK Try.prog 36 = true := by kernel_rfl
@[go_sem] theorem ex36 : (cfg.ext 36).isSome = false := rfl
def cd17 : Cd := .seq (R [c0 5 (.new false (.s 0)), c0 7 (.new false (.s 2)), c0 8 (.new false (.s 3)), c0 9 (.new false (.s 4)), c0 10 (.mv (.c (.sc (.pointer none))))] [1, 5, 7, 8, 9, 21]) (.seq (RD [cd (some 11) false none (.ld true 2 (.s 5)) false false [5], cd (some 12) false none (.call none (.c (kf 28)) [(.s 11)]) false false [11], cd (some 13) false none (.mv (.s 1)) false false [1], cd (some 14) false none (.ld true 3 (.s 7)) false false [7], cd (some 15) false none (.ld true 3 (.s 7)) false false [7], cd (some 16) false none (.call none (.c (kf 20)) [(.s 15)]) false false [15], cd (some 17) false none (.ld true 8 (.s 8)) false false [8], cd (some 18) false none (.ld true 2 (.s 9)) false false [9], cd (some 19) false none (.call none (.c (kf 36)) [(.s 18)]) false false [18], cd (some 20) false none (.bld [ki .i64 0, kz 1, ki .i64 0, ki .i64 0, ki .i64 0, ki .i64 0, ki .i64 0, ki .i64 0, ki .i64 0, ki .i64 0, ki .i64 0, kb false, ki .i64 0, ki .i64 0, ki .i64 0, ks [], ks [], ki .i64 0, ki .i64 0, ki .i64 0, ki .i64 0, kz 3, .sc (.slice none 0 0)] [(0, 2, (.s 12)), (2, 1, (.s 13)), (3, 3, (.s 14)), (6, 2, (.s 16)), (11, 1, (.c (kb true))), (12, 8, (.s 17)), (20, 2, (.s 19))]) false false [12, 13, 14, 16, 17, 19], cd (some 21) false none (.new true (.s 20)) false false [20], cd (some 10) false none (.mv (.s 21)) false false [21]] [5, 7, 8, 9, 10, 21] []) (.ret))
theorem fun17 : Fun Try.prog cfg 17 22 cd17 [.s 10] := ⟨rfl, Try.f17, _, Try.func17, rfl, rfl, by kernel_rfl, by kernel_rfl⟩
@[go_sem] theorem ok17 : calleeOK Try.prog 17 = true := by kernel_rfl
@[go_sem] theorem ex17 : (cfg.ext 17).isSome = false := rfl
def cd10 : Cd := .seq (R [c0 4 (.new false (.s 0)), c0 6 (.new false (.s 2)), c0 7 (.new false (.s 3)), c0 8 (.mv (.c (.sc (.pointer none))))] [1, 4, 6, 7, 15]) (.seq (RD [cd (some 9) false none (.ld true 2 (.s 4)) false false [4], cd (some 10) false none (.call none (.c (kf 28)) [(.s 9)]) false false [9], cd (some 11) false none (.mv (.s 1)) false false [1], cd (some 12) false none (.ld true 3 (.s 6)) false false [6], cd (some 13) false none (.ld true 2 (.s 7)) false false [7], cd (some 14) false none (.bld [ki .i64 0, kz 1, ki .i64 0, ki .i64 0, ki .i64 0, ki .i64 0, ki .i64 0, ki .i64 0, ki .i64 0, ki .i64 0, ki .i64 0, kb false, ki .i64 0, ki .i64 0, ki .i64 0, ks [], ks [], ki .i64 0, ki .i64 0, ki .i64 0, ki .i64 0, kz 3, .sc (.slice none 0 0)] [(0, 2, (.s 10)), (2, 1, (.s 11)), (3, 3, (.s 12)), (6, 2, (.s 13)), (10, 1, (.c (ki .i64 2)))]) false false [10, 11, 12, 13], cd (some 15) false none (.new true (.s 14)) false false [14], cd (some 8) false none (.mv (.s 15)) false false [15]] [4, 6, 7, 8, 15] []) (.ret))
theorem fun10 : Fun Try.prog cfg 10 16 cd10 [.s 8] := ⟨rfl, Try.f10, _, Try.func10, rfl, rfl, by kernel_rfl, by kernel_rfl⟩
@[go_sem] theorem ok10 : calleeOK Try.prog 10 = true := by kernel_rfl
@[go_sem] theorem ex10 : (cfg.ext 10).isSome = false := rfl
def cd12 : Cd := .seq (R [c0 2 (.tk (.c (ki .i64 0)))] [0]) (.seq (R [c0 3 (.mv (.s 0)), c0 4 (.mov 0 (.s 3)), c0 5 (.mov 10 (.s 4)), c0 6 (.ld false 1 (.s 5)), c0 2 (.tk (.s 6))] [2]) (.ret))
theorem fun12 : Fun Try.prog cfg 12 7 cd12 [.s 2] := ⟨rfl, Try.f12, _, Try.func12, rfl, rfl, by kernel_rfl, by kernel_rfl⟩
@[go_sem] theorem ok12 : calleeOK Try.prog 12 = true := by kernel_rfl
@[go_sem] theorem ex12 : (cfg.ext 12).isSome = false := rfl
def cd26 : Cd := .seq (R [c0 2 (.new false (.c (.agg [ki .i64 0, ki .i64 0])))] [0, 2]) (.seq (.seq (R [c0 3 (.mv (.s 0)), c0 4 (.mov 0 (.s 3)), c0 5 (.mov 10 (.s 4)), c0 6 (.ld false 1 (.s 5)), cb 7 (.bin .eql .any (.s 6) (.c (ki .i64 4)))] [0, 2, 7]) (.ite (.s 7) (.seq (R [c0 8 (.mv (.s 0)), c0 9 (.mov 0 (.s 8)), c0 10 (.mov 8 (.s 9)), c0 11 (.ld true 2 (.s 10)), cn (.st 2 (.s 2) (.s 11))] [2]) (.ret)) (.skip))) (.seq (R [c0 12 (.mv (.s 0)), c0 13 (.mov 0 (.s 12)), c0 14 (.mov 6 (.s 13)), c0 15 (.ld true 2 (.s 14)), cn (.st 2 (.s 2) (.s 15))] [2]) (.ret)))
theorem fun26 : Fun Try.prog cfg 26 16 cd26 [.b 2 true 2] := ⟨rfl, Try.f26, _, Try.func26, rfl, rfl, by kernel_rfl, by kernel_rfl⟩
@[go_sem] theorem ok26 : calleeOK Try.prog 26 = true := by kernel_rfl
@[go_sem] theorem ex26 : (cfg.ext 26).isSome = false := rfl
def cd34 : Cd := .seq (R [c0 6 (.new false (.s 2)), c0 7 (.new false (.s 3)), cb 8 (.tk (.c (kb false)))] [0, 1, 6, 7]) (.seq (RD (cd (some 9) false none (.mv (.s 0)) false false [0] :: cd (some 10) false none (.mv (.s 0)) false false [0] :: cd (some 11) false none (.mv (.s 0)) false false [0] :: cd (some 12) false none (.mv (.s 0)) false false [0] :: cd (some 13) false none (.mv (.s 0)) false false [0] :: cd (some 14) false none (.mv (.s 1)) false false [1] :: cd (some 15) false none (.ld true 8 (.s 6)) false false [6] :: cd (some 16) false none (.ld true 2 (.s 7)) false false [7] :: cd (some 17) false none (.call none (.c (kf 36)) [(.s 16)]) false false [16] :: cd (some 18) false none (.mov 0 (.s 9)) false false [9] :: cd (some 19) false none (.mov 10 (.s 18)) false false [18] :: cd none false none (.st 1 (.s 19) (.s 14)) false false [19, 14] :: cd (some 20) false none (.mov 0 (.s 10)) false false [10] :: cd (some 21) false none (.mov 12 (.s 20)) false false [20] :: cd none false none (.st 8 (.s 21) (.s 15)) false false [21, 15] :: cd (some 22) false none (.mov 0 (.s 11)) false false [11] :: cd (some 23) false none (.mov 20 (.s 22)) false false [22] :: cd none false none (.st 2 (.s 23) (.s 17)) false false [23, 17] :: cd (some 24) false none (.mov 0 (.s 12)) false false [12] :: cd (some 25) false none (.mov 11 (.s 24)) false false [24] :: cd none false none (.st 1 (.s 25) (.c (kb false))) false false [25] :: cd (some 26) false none (.mov 0 (.s 13)) false false [13] :: cd (some 27) false none (.mov 22 (.s 26)) false false [26] :: cd none false none (.st 1 (.s 27) (.c (kn 16))) false false [27] :: []) [6, 7] [12, 39]) (.seq (R [cb 8 (.tk (.c (kb true)))] [6, 7, 8]) (.ret)))
theorem fun34 : Fun Try.prog cfg 34 28 cd34 [.s 8] := ⟨rfl, Try.f34, _, Try.func34, rfl, rfl, by kernel_rfl, by kernel_rfl⟩
@[go_sem] theorem ok34 : calleeOK Try.prog 34 = true := by kernel_rfl
@[go_sem] theorem ex34 : (cfg.ext 34).isSome = false := rfl
def cd35 : Cd := .seq (R [c0 2 (.tk (.c (ki .i64 0))), cb 3 (.tk (.c (kb false)))] [0]) (.seq (.seq (R [c0 4 (.mv (.s 0))] [4]) (.block 0 (.seq (R [cb 6 (.bin .eql .any (.s 4) (.c (ki .i64 1))), cb 5 (.tk (.s 6))] [4, 5]) (.ite (.s 5) (.seq (R [c0 2 (.tk (.c (ki .i64 0))), cb 3 (.tk (.c (kb true)))] [2, 3]) (.ret)) (.seq (R [cb 8 (.bin .eql .any (.s 4) (.c (ki .i64 3))), cb 7 (.tk (.s 8))] [4, 7]) (.ite (.s 7) (.seq (R [c0 2 (.tk (.c (ki .i64 1))), cb 3 (.tk (.c (kb true)))] [2, 3]) (.ret)) (.seq (R [cb 10 (.bin .eql .any (.s 4) (.c (ki .i64 6))), cb 9 (.tk (.s 10))] [9]) (.ite (.s 9) (.seq (R [c0 2 (.tk (.c (ki .i64 2))), cb 3 (.tk (.c (kb true)))] [2, 3]) (.ret)) (.skip))))))))) (.seq (R [c0 2 (.tk (.c (ki .i64 0))), cb 3 (.tk (.c (kb false)))] [2, 3]) (.ret)))
theorem fun35 : Fun Try.prog cfg 35 11 cd35 [.s 2, .s 3] := ⟨rfl, Try.f35, _, Try.func35, rfl, rfl, by kernel_rfl, by kernel_rfl⟩
@[go_sem] theorem ok35 : calleeOK Try.prog 35 = true := by kernel_rfl
@[go_sem] theorem ex35 : (cfg.ext 35).isSome = false := rfl
def cd20 : Cd := .seq (R [c0 1 (.new false (.s 0)), c0 2 (.new false (.c (.agg [ki .i64 0, ki .i64 0])))] [1, 2]) (.seq (R [c0 3 (.mov 1 (.s 1)), c0 4 (.ld false 1 (.s 3)), c0 5 (.bld [ki .i64 0, ki .i64 0] [(1, 1, (.s 4))]), cn (.st 2 (.s 2) (.s 5))] [1, 2]) (.ret))
theorem fun20 : Fun Try.prog cfg 20 6 cd20 [.b 2 true 2] := ⟨rfl, Try.f20, _, Try.func20, rfl, rfl, by kernel_rfl, by kernel_rfl⟩
@[go_sem] theorem ok20 : calleeOK Try.prog 20 = true := by kernel_rfl
@[go_sem] theorem ex20 : (cfg.ext 20).isSome = false := rfl
def cd24 : Cd := .seq (R [c0 2 (.new false (.s 0)), c0 4 (.new false (.c (.agg [ki .i64 0, ki .i64 0])))] [1, 2, 4]) (.seq (R [c0 5 (.mov 0 (.s 2)), c0 6 (.ld false 1 (.s 5)), c0 7 (.bin .add .any (.s 6) (.c (ki .i64 1))), c0 8 (.mv (.s 1)), c0 9 (.bld [ki .i64 0, ki .i64 0] [(0, 1, (.s 7)), (1, 1, (.s 8))]), cn (.st 2 (.s 4) (.s 9))] [2, 4]) (.ret))
theorem fun24 : Fun Try.prog cfg 24 10 cd24 [.b 4 true 2] := ⟨rfl, Try.f24, _, Try.func24, rfl, rfl, by kernel_rfl, by kernel_rfl⟩
@[go_sem] theorem ok24 : calleeOK Try.prog 24 = true := by kernel_rfl
@[go_sem] theorem ex24 : (cfg.ext 24).isSome = false := rfl
def cd25 : Cd := .seq (R [c0 2 (.new false (.s 0)), c0 3 (.new false (.s 1)), c0 4 (.new false (.c (.agg [ki .i64 0, ki .i64 0])))] [2, 3, 4]) (.seq (.seq (R [c0 5 (.ld true 2 (.s 2)), c0 6 (.ld true 2 (.s 3)), cb 7 (.bin .neq (.flat [0, 0]) (.s 5) (.s 6)), cb 8 (.mv (.s 7)), cg 9 8 true (.ld true 2 (.s 2)), cg 10 8 true (.ld true 2 (.s 3)), ch 11 8 true (.call none (.c (kf 23)) [(.s 9), (.s 10)]), cb 12 (.pick (.s 8) (.s 11) (.c (kb false)))] [2, 3, 4, 12]) (.ite (.s 12) (.seq (R [c0 13 (.ld true 2 (.s 3)), cn (.st 2 (.s 4) (.s 13))] [2, 3, 4]) (.ret)) (.skip))) (.seq (R [c0 14 (.ld true 2 (.s 2)), cn (.st 2 (.s 4) (.s 14))] [2, 3, 4]) (.ret)))
theorem fun25 : Fun Try.prog cfg 25 15 cd25 [.b 4 true 2] := ⟨rfl, Try.f25, _, Try.func25, rfl, rfl, by kernel_rfl, by kernel_rfl⟩
@[go_sem] theorem ok25 : calleeOK Try.prog 25 = true := by kernel_rfl
@[go_sem] theorem ex25 : (cfg.ext 25).isSome = false := rfl
def cd64 : Cd := .seq (R [c0 2 (.new false (.s 0)), c0 4 (.tk (.c (ki .i64 0)))] [1, 2]) (.seq (R [c0 5 (.tk (.c (ki .i64 0)))] [1, 2, 5]) (.seq (.seq (R [c0 8 (.mov 1 (.s 2)), c0 9 (.ld false 3 (.s 8)), c0 10 (.len 1 (.s 9)), c0 11 (.mv (.c (ki .i64 0)))] [1, 2, 5, 9, 10, 11]) (.block 0 (LP [1, 2, 5, 9, 10, 11] (.seq (R [c0 12 (.bin .lss .any (.s 11) (.s 10))] [1, 2, 5, 9, 10, 11, 12]) (.seq (.ite (.s 12) (.skip) (.exit 0)) (.seq (.block 1 (.seq (R [c0 13 (.ixp 1 (.s 9) (.s 11)), c0 14 (.ld false 1 (.s 13)), c0 7 (.tk (.s 14))] [1, 2, 5, 7, 9, 10, 11]) (.seq (R [c0 15 (.mv (.s 1)), c0 16 (.mv (.s 7)), cb 17 (.call none (.c (kf 50)) [(.s 15), (.s 16)])] [1, 2, 5, 9, 10, 11, 17]) (.ite (.s 17) (R [c0 18 (.mv (.s 5)), c0 19 (.bin .add .any (.s 18) (.c (ki .i64 1))), c0 5 (.tk (.s 19))] [1, 2, 5, 9, 10, 11]) (.skip))))) (R [c0 20 (.bin .add .any (.s 11) (.c (ki .i64 1))), c0 11 (.mv (.s 20))] [1, 2, 5, 9, 10, 11]))))))) (.seq (R [c0 21 (.mv (.s 5)), c0 4 (.tk (.s 21))] [2, 4]) (.ret))))
theorem fun64 : Fun Try.prog cfg 64 22 cd64 [.s 4] := ⟨rfl, Try.f64, _, Try.func64, rfl, rfl, by kernel_rfl, by kernel_rfl⟩
@[go_sem] theorem ok64 : calleeOK Try.prog 64 = true := by kernel_rfl
@[go_sem] theorem ex64 : (cfg.ext 64).isSome = false := rfl
def cd55 : Cd := .seq (R [c0 2 (.new false (.s 0)), cb 4 (.mv (.c (kb false)))] [1, 2]) (.seq (RD [cd (some 5) false none (.ld true 2 (.s 2)) false false [2], cd (some 6) false none (.mv (.s 1)) false false [1], cd (some 7) false none (.call none (.c (kf 64)) [(.s 5), (.s 6)]) false false [5, 6], cd (some 8) false none (.mov 1 (.s 2)) false false [2], cd (some 9) false none (.ld false 3 (.s 8)) false false [8], cd (some 10) false none (.len 1 (.s 9)) false false [9], cd (some 11) false none (.call none (.c (kf 65)) [(.s 10)]) false false [10], cd (some 12) true none (.bin .geq .any (.s 7) (.s 11)) false false [7, 11], cd (some 4) true none (.mv (.s 12)) false false [12]] [2, 4] []) (.ret))
theorem fun55 : Fun Try.prog cfg 55 13 cd55 [.s 4] := ⟨rfl, Try.f55, _, Try.func55, rfl, rfl, by kernel_rfl, by kernel_rfl⟩
@[go_sem] theorem ok55 : calleeOK Try.prog 55 = true := by kernel_rfl
@[go_sem] theorem ex55 : (cfg.ext 55).isSome = false := rfl
def cd38 : Cd := .seq (R [cb 2 (.tk (.c (kb false)))] [0, 5]) (.seq (R [c0 3 (.tk (.c (kn 1)))] [0, 3, 5]) (.seq (.seq (R [c0 6 (.mv (.s 0)), c0 7 (.mov 0 (.s 6)), c0 8 (.mov 22 (.s 7)), c0 9 (.ld false 18 (.s 8)), c0 10 (.len 1 (.s 9)), c0 11 (.mv (.c (ki .i64 0)))] [0, 3, 5, 9, 10, 11]) (.block 0 (LP [0, 3, 5, 9, 10, 11] (.seq (R [c0 12 (.bin .lss .any (.s 11) (.s 10))] [0, 3, 5, 9, 10, 11, 12]) (.seq (.ite (.s 12) (.skip) (.exit 0)) (.seq (.block 1 (.seq (R [c0 13 (.ixp 16 (.s 9) (.s 11)), c0 14 (.ld true 16 (.s 13)), c0 5 (.new false (.c (.agg [ki .i64 0, ki .i64 0, ki .i64 0, ki .i64 0, ki .i64 0, ki .i64 0, ki .i64 0, ki .i64 0, ki .i64 0, ks [], ks [], ki .i64 0, ki .i64 0, ki .i64 0, ki .i64 0, kn 3]))), cn (.st 16 (.s 5) (.s 14))] [0, 3, 5, 9, 10, 11]) (R [c0 15 (.tk (.s 3)), c0 16 (.mov 0 (.s 5)), c0 17 (.ld false 1 (.s 16)), c0 18 (.bsl 1 [(.s 17)]), c0 19 (.app 1 10 true (.s 15) (.s 18)), c0 3 (.tk (.s 19))] [0, 3, 5, 9, 10, 11]))) (R [c0 20 (.bin .add .any (.s 11) (.c (ki .i64 1))), c0 11 (.mv (.s 20))] [0, 3, 5, 9, 10, 11]))))))) (.seq (R [c0 21 (.mv (.s 0)), c0 22 (.mov 0 (.s 21)), c0 23 (.mov 0 (.s 22)), c0 24 (.ld true 2 (.s 23)), c0 25 (.mv (.s 3)), cb 26 (.call none (.c (kf 55)) [(.s 24), (.s 25)]), cb 2 (.tk (.s 26))] [2, 5]) (.ret))))
theorem fun38 : Fun Try.prog cfg 38 27 cd38 [.s 2] := ⟨rfl, Try.f38, _, Try.func38, rfl, rfl, by kernel_rfl, by kernel_rfl⟩
@[go_sem] theorem ok38 : calleeOK Try.prog 38 = true := by kernel_rfl
@[go_sem] theorem ex38 : (cfg.ext 38).isSome = false := rfl
def cd19 : Cd := .seq (R [c0 2 (.new false (.c (.agg [ki .i64 0, ki .i64 0, ki .i64 0, ki .i64 0, ki .i64 0, ki .i64 0, ki .i64 0, ki .i64 0, ki .i64 0, ki .i64 0, ki .i64 0, ki .i64 0, ki .i64 0, ki .i64 0, ki .i64 0, ki .i64 0, ks [], ks [], ki .i64 0, ki .i64 0, ki .i64 0, ki .i64 0, kn 3, ki .i64 0, kn 1, kn 3, kn 6])))] [0, 2, 3]) (.seq (RD (cd (some 4) false none (.mv (.s 0)) false false [0] :: cd (some 5) false none (.mov 0 (.s 4)) false false [4] :: cd (some 6) false none (.mov 2 (.s 5)) false false [5] :: cd (some 7) false none (.ld false 1 (.s 6)) false false [6] :: cd (some 8) false none (.mv (.s 0)) false false [0] :: cd (some 9) false none (.mov 0 (.s 8)) false false [8] :: cd (some 10) false none (.mov 3 (.s 9)) false false [9] :: cd (some 11) false none (.ld true 3 (.s 10)) false false [10] :: cd (some 12) false none (.mv (.s 0)) false false [0] :: cd (some 13) false none (.mov 0 (.s 12)) false false [12] :: cd (some 14) false none (.mov 6 (.s 13)) false false [13] :: cd (some 15) false none (.ld true 2 (.s 14)) false false [14] :: cd (some 16) false none (.mv (.s 0)) false false [0] :: cd (some 17) false none (.mov 0 (.s 16)) false false [16] :: cd (some 18) false none (.mov 12 (.s 17)) false false [17] :: cd (some 19) false none (.ld true 8 (.s 18)) false false [18] :: cd (some 20) false none (.mv (.s 0)) false false [0] :: cd (some 21) false none (.mov 0 (.s 20)) false false [20] :: cd (some 22) false none (.mov 20 (.s 21)) false false [21] :: cd (some 23) false none (.ld true 2 (.s 22)) false false [22] :: cd (some 24) false none (.call none (.c (kf 36)) [(.s 23)]) false false [23] :: cd (some 25) false none (.bld [ki .i64 0, ki .i64 0, ki .i64 0, ki .i64 0, ki .i64 0, ki .i64 0, ki .i64 0, ki .i64 0, ks [], ks [], ki .i64 0, ki .i64 0, ki .i64 0, ki .i64 0, kz 3] [(5, 8, (.s 19)), (13, 2, (.s 24))]) false false [19, 24] :: cd (some 26) false none (.bld [ki .i64 0, ki .i64 0, ki .i64 0, ki .i64 0, ki .i64 0, ki .i64 0, ki .i64 0, ki .i64 0, ki .i64 0, ki .i64 0, ki .i64 0, ki .i64 0, ki .i64 0, ki .i64 0, ki .i64 0, ki .i64 0, ks [], ks [], ki .i64 0, ki .i64 0, ki .i64 0, ki .i64 0, kz 3, ki .i64 0, kz 1, kz 3, kz 6] [(1, 1, (.s 7)), (3, 3, (.s 11)), (6, 2, (.s 15)), (8, 15, (.s 25))]) false false [7, 11, 15, 25] :: cd (some 3) false none (.new false (.c (.agg [ki .i64 0, ki .i64 0, ki .i64 0, ki .i64 0, ki .i64 0, ki .i64 0, ki .i64 0, ki .i64 0, ki .i64 0, ki .i64 0, ki .i64 0, ki .i64 0, ki .i64 0, ki .i64 0, ki .i64 0, ki .i64 0, ks [], ks [], ki .i64 0, ki .i64 0, ki .i64 0, ki .i64 0, kn 3, ki .i64 0, kn 1, kn 3, kn 6]))) true false [] :: cd none false none (.st 27 (.s 3) (.s 26)) false false [3, 26] :: []) [0, 2, 3] []) (.seq (.seq (R [c0 27 (.mv (.s 0)), c0 28 (.mov 0 (.s 27)), c0 29 (.mov 10 (.s 28)), c0 30 (.ld false 1 (.s 29))] [0, 2, 3, 30]) (.block 0 (.seq (R [cb 37 (.bin .eql .any (.s 30) (.c (ki .i64 0))), cb 36 (.tk (.s 37))] [0, 2, 3, 30, 36]) (.ite (.s 36) (R [c0 38 (.mov 0 (.s 3)), cn (.st 1 (.s 38) (.c (ki .i64 0)))] [2, 3]) (.seq (R [cb 40 (.bin .eql .any (.s 30) (.c (ki .i64 1))), cb 39 (.tk (.s 40))] [0, 2, 3, 30, 39]) (.ite (.s 39) (R [c0 41 (.mov 0 (.s 3)), cn (.st 1 (.s 41) (.c (ki .i64 2)))] [2, 3]) (.seq (R [cb 43 (.bin .eql .any (.s 30) (.c (ki .i64 2))), cb 42 (.tk (.s 43))] [0, 2, 3, 30, 42]) (.ite (.s 42) (R [c0 44 (.bld [ki .i64 0, ki .i64 0, ki .i64 0, ki .i64 0, ki .i64 0, ki .i64 0, ki .i64 0, ki .i64 0, ks [], ks [], ki .i64 0, ki .i64 0, ki .i64 0, ki .i64 0, kz 3] []), c0 45 (.mov 0 (.s 3)), cn (.st 1 (.s 45) (.c (ki .i64 5))), c0 46 (.mov 8 (.s 3)), cn (.st 15 (.s 46) (.s 44))] [2, 3]) (.seq (R [cb 48 (.bin .eql .any (.s 30) (.c (ki .i64 3))), cb 47 (.tk (.s 48))] [0, 2, 3, 47]) (.ite (.s 47) (RD [cd (some 49) false none (.mv (.s 0)) false false [0], cd (some 50) false none (.mov 0 (.s 49)) false false [49], cd (some 51) false none (.mov 6 (.s 50)) false false [50], cd (some 52) false none (.ld true 2 (.s 51)) false false [51], cd (some 53) false none (.mov 0 (.s 3)) false false [3], cd none false none (.st 1 (.s 53) (.c (ki .i64 4))) false false [53], cd (some 54) false none (.mov 8 (.s 3)) false false [3], cd (some 55) false none (.mov 0 (.s 54)) false false [54], cd none false none (.st 1 (.s 55) (.c (ki .i64 3))) false false [55], cd (some 56) false none (.mov 8 (.s 3)) false false [3], cd (some 57) false none (.mov 3 (.s 56)) false false [56], cd none false none (.st 2 (.s 57) (.s 52)) false false [57, 52]] [2, 3] [103, 106, 103, 110]) (.seq (R [c0 31 (.mv (.s 0)), c0 32 (.mov 0 (.s 31)), c0 33 (.mov 2 (.s 32)), c0 34 (.ld false 1 (.s 33)), c0 35 (.bld [ki .i64 0, ki .i64 0, ki .i64 0, ki .i64 0, ki .i64 0, ki .i64 0, ki .i64 0, ki .i64 0, ki .i64 0, ki .i64 0, ki .i64 0, ki .i64 0, ki .i64 0, ki .i64 0, ki .i64 0, ki .i64 0, ks [], ks [], ki .i64 0, ki .i64 0, ki .i64 0, ki .i64 0, kz 3, ki .i64 0, kz 1, kz 3, kz 6] [(0, 1, (.c (ki .i64 8))), (1, 1, (.s 34))]), cn (.st 27 (.s 2) (.s 35))] [2, 3]) (.ret)))))))))))) (.seq (R [c0 58 (.ld true 27 (.s 3)), cn (.st 27 (.s 2) (.s 58))] [2, 3]) (.ret))))
theorem fun19 : Fun Try.prog cfg 19 59 cd19 [.b 2 true 27] := ⟨rfl, Try.f19, _, Try.func19, rfl, rfl, by kernel_rfl, by kernel_rfl⟩
@[go_sem] theorem ok19 : calleeOK Try.prog 19 = true := by kernel_rfl
@[go_sem] theorem ex19 : (cfg.ext 19).isSome = false := rfl
variable {h : DHeap}
theorem own_lim (a : Att) (hl : a.deps.length ≤ 1048576) : lim Try.prog cfg 36 [attD a] h = some (attD a, h) := by
  refine lim_funp fun36 rfl (by simp) (by simp [heapFree, heapFree.all, free_idr]) (by simp [heapFree, heapFree.all, free_idr]) ?_
  delta cd36
  have e1 := fun own => cloneD_lim (h := []) own a.deps hl
  simp -implicitDefEqProofs -dsimp only [go_sem, wp_RD, postC_path2, Nat.reduceDiv, e1]
theorem firstB_lim (x : Id) : lim Try.prog cfg 20 [.agg [vi x.e, vi x.n, vi x.k]] h = some (.agg [vi 0, vi x.n], h) := by
  refine lim_funp fun20 rfl (by simp) rfl rfl ?_
  delta cd20
  simp -implicitDefEqProofs -dsimp only [go_sem]
theorem nextB_lim (b : Bal) (n : Int) : lim Try.prog cfg 24 [.agg [vi b.no, vi b.node], vi n] h = some (.agg [vi (nextB b n).no, vi n], h) := by
  refine lim_funp fun24 rfl (by simp) rfl rfl ?_
  delta cd24
  simp -implicitDefEqProofs -dsimp only [go_sem]
  rfl
theorem mostB_lim (a b : Bal) : lim Try.prog cfg 25 [.agg [vi a.no, vi a.node], .agg [vi b.no, vi b.node]] h = some (.agg [vi (mostB a b).no, vi (mostB a b).node], h) := by
  refine lim_funp fun25 rfl (by simp) rfl rfl ?_
  delta cd25
  have e1 := lessB_lim (h := []) a b
  unfold mostB
  by_cases c1 : a = b
  · simp -implicitDefEqProofs -dsimp only [go_sem, eq_true c1] <;> simp [c1]
  · cases c2 : lessB a b <;> rw [c2] at e1 <;> simp -implicitDefEqProofs -dsimp only [go_sem, eq_false c1, e1] <;> simp [c1]
theorem new16_lim (c : Con) (node : Int) (id : Id) (cmd : Cmd) (a : Att) (hc : c.nodes.length ≤ 1048576) (ha : a.deps.length ≤ 1048576) :
    lim Try.prog cfg 17 [.agg [vi c.epoch, .list false 1 (vnums c.nodes)], vi node, .agg [vi id.e, vi id.n, vi id.k], cmdD cmd, attD a] h = some (.ptr h.length 0, h ++ [.cells (cellsL (newL c node id cmd a) (votD (newL c node id cmd a)))]) := by
  refine lim_fun fun17 rfl (by simp) rfl ?_
  delta cd17
  have e1 := cloneC_lim (h := h) c.epoch c.nodes hc
  have e2 := firstB_lim (h := h) id
  have e3 := own_lim (h := h) a ha
  simp -implicitDefEqProofs -dsimp only [go_sem, wp_RD, postC_path2, Nat.reduceDiv, e1, e2, e3]
  exact ⟨rfl, rfl⟩
theorem take16_lim (c : Con) (node : Int) (id : Id) (b : Bal) (hc : c.nodes.length ≤ 1048576) :
    lim Try.prog cfg 10 [.agg [vi c.epoch, .list false 1 (vnums c.nodes)], vi node, .agg [vi id.e, vi id.n, vi id.k], .agg [vi b.no, vi b.node]] h = some (.ptr h.length 0, h ++ [.cells (cellsL (takeL c node id b) (votD (takeL c node id b)))]) := by
  refine lim_fun fun10 rfl (by simp) rfl ?_
  delta cd10
  have e1 := cloneC_lim (h := h) c.epoch c.nodes hc
  simp -implicitDefEqProofs -dsimp only [go_sem, wp_RD, postC_path2, Nat.reduceDiv, e1]
  exact ⟨rfl, rfl⟩
theorem phase_lim {i : Nat} {L : Ld} (H : AtL h i L) : lim Try.prog cfg 12 [.ptr i 0] h = some (vi L.ph, h) := by
  refine lim_fun fun12 rfl (by simp) rfl ?_
  delta cd12
  simp -implicitDefEqProofs -dsimp only [go_sem, H.obj]
theorem ballotL_lim {i : Nat} {L : Ld} (H : AtL h i L) : lim Try.prog cfg 26 [.ptr i 0] h = some (.agg [vi (ballotL L).no, vi (ballotL L).node], h) := by
  refine lim_fun fun26 rfl (by simp) rfl ?_
  delta cd26
  unfold ballotL
  by_cases c1 : L.ph = 4
  · rw [if_pos c1]; simp -implicitDefEqProofs -dsimp only [go_sem, H.obj, eq_true c1]
  · rw [if_neg c1]; simp -implicitDefEqProofs -dsimp only [go_sem, H.obj, eq_false c1]
theorem wait_lim {i : Nat} {L : Ld} (H : AtL h i L) (hc : L.con.nodes.length ≤ 1048576) (hl : L.vo.length ≤ 1000000) : lim Try.prog cfg 11 [.ptr i 0] h = some (.list true 1 (vnums (waitL L)), h) := by
  refine lim_ext rfl ?_ rfl
  show waitF Try.prog cfg0 29 32 [.ptr i 0] h = _
  rw [waitF_eq H.o (M0.overL_lim H) (fun x => M0.heard_lim H hl x) hc]
  unfold waitL
  cases overL L <;> rfl
theorem phaseOf_lim (k : Int) : lim Try.prog cfg 35 [vi k] h = some (.tup [vi (if k = 1 then 0 else if k = 3 then 1 else if k = 6 then 2 else 0), vb (decide (k = 1) || decide (k = 3) || decide (k = 6))], h) := by
  refine lim_funp fun35 rfl (by simp) rfl rfl ?_
  delta cd35
  by_cases c1 : k = 1
  · simp -implicitDefEqProofs -dsimp only [go_sem, eq_true c1] <;> simp [c1]
  by_cases c2 : k = 3
  · simp -implicitDefEqProofs -dsimp only [go_sem, eq_false c1, eq_true c2] <;> simp [c1, c2]
  by_cases c3 : k = 6
  · simp -implicitDefEqProofs -dsimp only [go_sem, eq_false c1, eq_false c2, eq_true c3] <;> simp [c1, c2, c3]
  · simp -implicitDefEqProofs -dsimp only [go_sem, eq_false c1, eq_false c2, eq_false c3] <;> simp [c1, c2, c3]
set_option maxHeartbeats 2000000 in
theorem turn_lim {i : Nat} {L : Ld} (H : AtL h i L) (p : Int) (c : Cmd) (a : Att) (ha : a.deps.length ≤ 1048576) : lim Try.prog cfg 34 [.ptr i 0, vi p, cmdD c, attD a] h = some (vb true, h.set i (.cells (cellsL (turnL L p c a) (votD (turnL L p c a))))) := by
  refine lim_fun fun34 rfl (by simp) rfl ?_
  delta cd34
  have e1 := own_lim (h := h) a ha
  have hlt := H.lt
  have hs : ∀ (cs : List DV) (N : List DV → Prop), ObjP (h.set i (.cells cs)) i N = N cs := fun cs N => by simp [ObjP, hlt]
  have hss : ∀ (x y : DObj), (h.set i x).set i y = h.set i y := fun x y => List.set_set ..
  have ho := H.obj
  cases hr : L.rw <;> simp only [cellsL, votD, hr, if_true, Bool.false_eq_true, if_false] at ho <;> simp -implicitDefEqProofs -dsimp only [go_sem, wp_RD, postC_path2, Nat.reduceDiv, ho, hs, hss, e1]
  all_goals rfl
end Go.DS

/-
  Walks: whether a lead heard enough.
-/
namespace Go.DS
open Go Go.Proofs
set_option maxRecDepth 100000
set_option linter.unusedVariables false
set_option linter.unusedSimpArgs false
@[go_sem] theorem ok65 : calleeOK Try.prog 65 = true := by kernel_rfl
@[go_sem] theorem ex65 : (cfg.ext 65).isSome = true := rfl
variable {h : DHeap}
theorem quorum_lim (n : Nat) (hn : n ≤ 1099511627776) : lim Try.prog cfg 65 [vi (n : Int)] h = some (vi (quorumP n : Nat), h) := by
  refine lim_ext rfl ?_ rfl
  show quorumF [.sc (.int .i64 (n : Int))] h = _
  simp only [quorumF]
  rw [if_pos (by omega)]
  unfold quorumP
  by_cases c1 : n < 1
  · rw [if_pos (by omega), if_pos c1]; rfl
  · rw [if_neg (by omega), if_neg c1]; rfl
theorem here_succ (nodes who : List Int) (k : Nat) (hk : k < nodes.length) : ((nodes.take (k + 1)).filter fun x => decide (x ∈ who)).length = ((nodes.take k).filter fun x => decide (x ∈ who)).length + if nodes[k] ∈ who then 1 else 0 := by
  rw [List.take_succ_eq_append_getElem hk, List.filter_append, List.length_append]
  split
  · rename_i h; simp [h]
  · rename_i h; simp [h]
theorem here_le (nodes who : List Int) (k : Nat) : ((nodes.take k).filter fun x => decide (x ∈ who)).length ≤ k := Nat.le_trans (List.length_filter_le ..) (by rw [List.length_take]; omega)
set_option maxHeartbeats 1000000 in
theorem here_lim (own : Bool) (c : Con) (who : List Int) (hc : c.nodes.length ≤ 1048576) (hw : who.length ≤ 1048576) : lim Try.prog cfg 64 [.agg [vi c.epoch, .list false 1 (vnums c.nodes)], .list own 1 (vnums who)] h = some (vi (hereP c.nodes who : Nat), h) := by
  refine lim_funp fun64 rfl (by simp) (by simp [heapFree, heapFree.all, free_vnums]) rfl ?_
  delta cd64
  simp -implicitDefEqProofs -dsimp only [go_sem]
  refine wp_for (σ := Nat) (fun k => [(1, .list false 1 (vnums who)), (2, .box [vi c.epoch, .list false 1 (vnums c.nodes)]), (5, vi (((c.nodes.take k).filter fun x => decide (x ∈ who)).length : Nat)), (9, .list false 1 (vnums c.nodes)), (10, vi (c.nodes.length : Nat)), (11, vi (k : Nat))]) (fun _ => []) (fun k => c.nodes.length - k) (fun k => k ≤ c.nodes.length) 0 (by simp) rfl rfl ?_
  rintro k hk N hN
  have hle := here_le c.nodes who k
  by_cases hlt : k < c.nodes.length
  · have h1 : (k : Int) < (c.nodes.length : Int) := by omega
    have e1 := containsN_lim (h := []) false who c.nodes[k] (by omega)
    have es := here_succ c.nodes who k hlt
    by_cases c1 : c.nodes[k] ∈ who
    · rw [decide_eq_true c1] at e1
      rw [if_pos c1] at es
      simp -implicitDefEqProofs -dsimp only [go_sem, h1, hlt, e1]
      refine hN (k + 1) _ (by omega) (by omega) ?_
      rw [es]
      simp -implicitDefEqProofs -dsimp only [go_sem, wrap_succ (show k < 9223372036854775807 by omega), wrap_succ (show ((c.nodes.take k).filter fun x => decide (x ∈ who)).length < 9223372036854775807 by omega)]
    · rw [decide_eq_false c1] at e1
      rw [if_neg c1] at es
      simp -implicitDefEqProofs -dsimp only [go_sem, h1, hlt, e1]
      refine hN (k + 1) _ (by omega) (by omega) ?_
      rw [es]
      simp -implicitDefEqProofs -dsimp only [go_sem, wrap_succ (show k < 9223372036854775807 by omega)]
  · have h1 : ¬ (k : Int) < (c.nodes.length : Int) := by omega
    rw [List.take_of_length_le (by omega)]
    simp -implicitDefEqProofs -dsimp only [go_sem, h1]
    rfl
theorem enough5_lim (own : Bool) (c : Con) (who : List Int) (hc : c.nodes.length ≤ 1048576) (hw : who.length ≤ 1048576) : lim Try.prog cfg 55 [.agg [vi c.epoch, .list false 1 (vnums c.nodes)], .list own 1 (vnums who)] h = some (vb (decide (quorumP c.nodes.length ≤ hereP c.nodes who)), h) := by
  refine lim_funp fun55 rfl (by simp) (by simp [heapFree, heapFree.all, free_vnums]) rfl ?_
  delta cd55
  have e1 := here_lim (h := []) false c who hc hw
  have e2 := quorum_lim (h := []) c.nodes.length (by omega)
  by_cases c1 : quorumP c.nodes.length ≤ hereP c.nodes who
  · have c1' : (quorumP c.nodes.length : Int) ≤ (hereP c.nodes who : Int) := by omega
    rw [decide_eq_true c1]
    simp -implicitDefEqProofs -dsimp only [go_sem, wp_RD, e1, e2, c1']
  · have c1' : ¬ (quorumP c.nodes.length : Int) ≤ (hereP c.nodes who : Int) := by omega
    rw [decide_eq_false c1]
    simp -implicitDefEqProofs -dsimp only [go_sem, wp_RD, e1, e2, c1']
theorem vnumsR_snoc (l : List Int) (x : Int) : vnums (l ++ [x]) = vnums l ++ [[vi x]] := by simp [vnums]
set_option maxHeartbeats 2000000 in
theorem enoughL_lim {i : Nat} {L : Ld} (H : AtL h i L) (hc : L.con.nodes.length ≤ 1048576) (hl : L.vo.length ≤ 100000) : lim Try.prog cfg 38 [.ptr i 0] h = some (vb (enoughL L), h) := by
  have e1 := fun own => enough5_lim (h := h) own L.con (L.vo.map (·.1)) hc (by rw [List.length_map]; omega)
  have hn := H.nil
  have ho := H.obj
  clear H
  unfold enoughL
  refine lim_fun fun38 rfl (by simp) rfl ?_
  delta cd38
  obtain ⟨con, node, id, bal, btn, ph, first, cmd, att, vo, rw⟩ := L
  dsimp only at *
  cases rw with
  | true =>
    have hv := hn rfl
    subst hv
    simp only [cellsL, votD, if_true] at ho
    have e2 : ∀ own, lim Try.prog cfg 55 [.agg [vi con.epoch, .list false 1 (vnums con.nodes)], .list own 1 []] h = some (vb (decide (quorumP con.nodes.length ≤ hereP con.nodes [])), h) := e1
    simp -implicitDefEqProofs -dsimp only [go_sem, ho]
    refine wp_for (σ := Nat) (fun k => [(0, .ptr i 0), (3, .list true 1 []), (5, .junk), (9, .list true 16 []), (10, vi 0), (11, vi 0)]) (fun _ => h) (fun k => 0) (fun k => True) 0 trivial rfl rfl ?_
    rintro k _ N hN
    show WP _ _ _ _ _ _ _
    cases hb : decide (quorumP con.nodes.length ≤ hereP con.nodes []) <;> simp only [hb] at e2 <;> simp -implicitDefEqProofs -dsimp only [go_sem, ho, e2]
    all_goals (first | (show vb _ = vb (decide (quorumP con.nodes.length ≤ hereP con.nodes [])); rw [hb]) | skip)
  | false =>
    simp only [cellsL, votD, Bool.false_eq_true, if_false] at ho
    simp -implicitDefEqProofs -dsimp only [go_sem, ho]
    refine wp_for (σ := Nat × DV) (fun s => [(0, .ptr i 0), (3, .list true 1 (vnums ((vo.take s.1).map (·.1)))), (5, s.2), (9, .list false 16 (vots vo)), (10, vi (vo.length : Nat)), (11, vi (s.1 : Nat))]) (fun _ => h) (fun s => vo.length - s.1) (fun s => s.1 ≤ vo.length) (0, .junk) (Nat.zero_le _) rfl rfl ?_
    rintro ⟨k, y⟩ hk N hN
    dsimp only at hk
    by_cases hlt : k < vo.length
    · have h1 : (k : Int) < (vo.length : Int) := by omega
      have q := fun N => vot_at hlt N
      have hm : ((vo.take k).length + 1) * 10 ≤ maxLenD := by rw [List.length_take]; unfold maxLenD; omega
      have N2 := fun y => hN (k + 1, y)
      dsimp only at N2
      rw [List.take_succ_eq_append_getElem hlt, List.map_append, List.map_cons, List.map_nil] at N2
      clear hN
      simp -implicitDefEqProofs -dsimp only [go_sem, ↓q, h1, hm, List.length_map]
      refine N2 (.box [vi vo[k].1, vi vo[k].2.st, vi vo[k].2.pro.no, vi vo[k].2.pro.node, vi vo[k].2.vot.no, vi vo[k].2.vot.node, vi vo[k].2.cmd.client, vi vo[k].2.cmd.seq, vi vo[k].2.cmd.op, vs vo[k].2.cmd.path, vs vo[k].2.cmd.value, vi vo[k].2.cmd.version, vi vo[k].2.cmd.a, vi vo[k].2.cmd.b, vi vo[k].2.att.seq, .list false 3 (idr vo[k].2.att.deps)]) _ (by omega) (by omega) ?_
      simp -implicitDefEqProofs -dsimp only [go_sem, wrap_succ (show k < 9223372036854775807 by omega)]
    · have h1 : ¬ (k : Int) < (vo.length : Int) := by omega
      rw [List.take_of_length_le (by omega)]
      cases hb : decide (quorumP con.nodes.length ≤ hereP con.nodes (vo.map (·.1))) <;> simp only [hb] at e1 <;> simp -implicitDefEqProofs -dsimp only [go_sem, h1, ho, e1]
end Go.DS

/-
  Walks: what a lead makes of its votes.
-/
namespace Go.DS
open Go Go.Proofs
set_option maxRecDepth 100000
set_option linter.unusedVariables false
set_option linter.unusedSimpArgs false
@[go_sem] theorem ok42 : calleeOK Try.prog 42 = true := by kernel_rfl
@[go_sem] theorem ex42 : (cfg.ext 42).isSome = true := rfl
def cd63 : Cd := .seq (R [c0 4 (.tk (.c (ki .i64 0)))] [0, 1]) (.seq (.seq (R [c0 6 (.mv (.s 0)), c0 7 (.len 1 (.s 6)), c0 8 (.mv (.c (ki .i64 0)))] [0, 1, 7, 8]) (.block 0 (LP [0, 1, 7, 8] (.seq (R [c0 9 (.bin .lss .any (.s 8) (.s 7))] [0, 1, 7, 8, 9]) (.seq (.ite (.s 9) (.skip) (.exit 0)) (.seq (.block 1 (.seq (R [c0 10 (.mv (.s 8)), c0 5 (.tk (.s 10))] [0, 1, 5, 7, 8]) (.seq (R [c0 11 (.mv (.s 1)), c0 12 (.mv (.s 0)), c0 13 (.mv (.s 5)), c0 14 (.ixp 2 (.s 12) (.s 13)), c0 15 (.ld true 2 (.s 14)), cb 16 (.call none (.s 11) [(.s 15)])] [0, 1, 5, 7, 8, 16]) (.ite (.s 16) (.seq (R [c0 17 (.mv (.s 5)), c0 4 (.tk (.s 17))] [4]) (.ret)) (.skip))))) (R [c0 18 (.bin .add .any (.s 8) (.c (ki .i64 1))), c0 8 (.mv (.s 18))] [0, 1, 7, 8]))))))) (.seq (R [c0 4 (.tk (.c (ki .i64 (-1))))] [4]) (.ret)))
theorem fun63 : Fun Try.prog cfg 63 19 cd63 [.s 4] := ⟨rfl, Try.f63, _, Try.func63, rfl, rfl, by kernel_rfl, by kernel_rfl⟩
@[go_sem] theorem ok63 : calleeOK Try.prog 63 = true := by kernel_rfl
@[go_sem] theorem ex63 : (cfg.ext 63).isSome = false := rfl
def cd54 : Cd := .seq (R [cb 4 (.tk (.c (kb false)))] [0, 1]) (.seq (R [c0 5 (.mv (.s 0)), c0 6 (.mv (.s 1)), c0 7 (.call none (.c (kf 63)) [(.s 5), (.s 6)]), cb 8 (.bin .geq .any (.s 7) (.c (ki .i64 0))), cb 4 (.tk (.s 8))] [4]) (.ret))
theorem fun54 : Fun Try.prog cfg 54 9 cd54 [.s 4] := ⟨rfl, Try.f54, _, Try.func54, rfl, rfl, by kernel_rfl, by kernel_rfl⟩
@[go_sem] theorem ok54 : calleeOK Try.prog 54 = true := by kernel_rfl
@[go_sem] theorem ex54 : (cfg.ext 54).isSome = false := rfl
def cd37 : Cd := .seq (R [c0 1 (.new false (.s 0)), cb 2 (.mv (.c (kb false)))] [1]) (.seq (R [c0 4 (.mkf (.func 52) 0 [(.s 1)]), c0 3 (.tk (.s 4))] [1, 3]) (.seq (.seq (R [c0 5 (.ld false 1 (.s 1)), c0 6 (.mov 0 (.s 5)), c0 7 (.mov 11 (.s 6)), cb 8 (.ld false 1 (.s 7)), cb 9 (.mv (.s 8)), cg 10 9 true (.ld false 1 (.s 1)), cg 11 9 true (.call none (.c (kf 42)) [(.s 10)]), cg 12 9 true (.mv (.s 3)), ch 13 9 true (.call none (.c (kf 54)) [(.s 11), (.s 12)]), ch 14 9 true (.un .not (.s 13)), cb 15 (.pick (.s 9) (.s 14) (.c (kb false)))] [1, 15]) (.ite (.s 15) (.seq (RD [cd (some 16) false none (.ld false 1 (.s 1)) false false [1], cd (some 17) false none (.call none (.c (kf 11)) [(.s 16)]) false false [16], cd (some 18) false none (.len 1 (.s 17)) false false [17], cd (some 19) true none (.bin .eql .any (.s 18) (.c (ki .i64 0))) false false [18], cd (some 20) true none (.mv (.s 19)) false false [19], cd (some 21) false (some (20, true)) (.ld false 1 (.s 1)) false false [1], cd (some 22) false (some (20, true)) (.ld false 1 (.s 1)) false false [1], cd (some 23) false (some (20, true)) (.mov 0 (.s 22)) false false [22], cd (some 24) false (some (20, true)) (.mov 12 (.s 23)) false false [23], cd (some 25) false (some (20, true)) (.ld true 8 (.s 24)) false false [24], cd (some 26) false (some (20, true)) (.ld false 1 (.s 1)) false false [1], cd (some 27) false (some (20, true)) (.mov 0 (.s 26)) false false [26], cd (some 28) false (some (20, true)) (.mov 20 (.s 27)) false false [27], cd (some 29) false (some (20, true)) (.ld true 2 (.s 28)) false false [28], cd (some 30) true (some (20, true)) (.call none (.c (kf 34)) [(.s 21), (.c (ki .i64 3)), (.s 25), (.s 29)]) false false [21, 25, 29], cd (some 31) true none (.pick (.s 20) (.s 30) (.c (kb false))) false false [20, 30], cd (some 2) true none (.mv (.s 31)) false false [31]] [1, 2] []) (.ret)) (.skip))) (.seq (RD [cd (some 32) false none (.ld false 1 (.s 1)) false false [1], cd (some 33) true none (.call none (.c (kf 38)) [(.s 32)]) false false [32], cd (some 34) true none (.mv (.s 33)) false false [33], cd (some 35) false (some (34, true)) (.ld false 1 (.s 1)) false false [1], cd (some 36) false (some (34, true)) (.ld false 1 (.s 1)) false false [1], cd (some 37) false (some (34, true)) (.mov 0 (.s 36)) false false [36], cd (some 38) false (some (34, true)) (.mov 12 (.s 37)) false false [37], cd (some 39) false (some (34, true)) (.ld true 8 (.s 38)) false false [38], cd (some 40) false (some (34, true)) (.ld false 1 (.s 1)) false false [1], cd (some 41) false (some (34, true)) (.call none (.c (kf 42)) [(.s 40)]) false false [40], cd (some 42) false (some (34, true)) (.call none (.c (kf 41)) [(.s 41)]) false false [41], cd (some 43) true (some (34, true)) (.call none (.c (kf 34)) [(.s 35), (.c (ki .i64 1)), (.s 39), (.s 42)]) false false [35, 39, 42], cd (some 44) true none (.pick (.s 34) (.s 43) (.c (kb false))) false false [34, 43], cd (some 2) true none (.mv (.s 44)) false false [44]] [1, 2] []) (.ret))))
theorem fun37 : Fun Try.prog cfg 37 45 cd37 [.s 2] := ⟨rfl, Try.f37, _, Try.func37, rfl, rfl, by kernel_rfl, by kernel_rfl⟩
@[go_sem] theorem ok37 : calleeOK Try.prog 37 = true := by kernel_rfl
@[go_sem] theorem ex37 : (cfg.ext 37).isSome = false := rfl
def cd52 : Cd := .seq (R [c0 2 (.new false (.s 0)), cb 3 (.mv (.c (kb false)))] [1, 2]) (.seq (RD [cd (some 4) false none (.ld true 2 (.s 2)) false false [2], cd (some 5) false none (.ld false 1 (.s 1)) false false [1], cd (some 6) false none (.mov 0 (.s 5)) false false [5], cd (some 7) false none (.mov 20 (.s 6)) false false [6], cd (some 8) false none (.ld true 2 (.s 7)) false false [7], cd (some 9) true none (.call none (.c (kf 53)) [(.s 4), (.s 8)]) false false [4, 8], cd (some 10) true none (.un .not (.s 9)) false false [9], cd (some 3) true none (.mv (.s 10)) false false [10]] [2, 3] []) (.ret))
theorem fun52 : Fun Try.prog cfg 52 11 cd52 [.s 3] := ⟨rfl, Try.f52, _, Try.func52, rfl, rfl, by kernel_rfl, by kernel_rfl⟩
@[go_sem] theorem ok52 : calleeOK Try.prog 52 = true := by kernel_rfl
@[go_sem] theorem ex52 : (cfg.ext 52).isSome = false := rfl
def cd56 : Cd := .seq (R [c0 2 (.new false (.c (.agg [ki .i64 0, ki .i64 0, ki .i64 0, ki .i64 0, ki .i64 0, ki .i64 0, ki .i64 0, ki .i64 0, ks [], ks [], ki .i64 0, ki .i64 0, ki .i64 0, ki .i64 0, kn 3]))), cb 3 (.mv (.c (kb false)))] [0, 2, 4, 5, 8]) (.seq (R [c0 4 (.new true (.c (.agg [ki .i64 0, ki .i64 0, ki .i64 0, ki .i64 0, ki .i64 0, ki .i64 0, ki .i64 0, ki .i64 0, ks [], ks [], ki .i64 0, ki .i64 0, ki .i64 0, ki .i64 0, kn 3])))] [0, 2, 4, 5, 8]) (.seq (R [c0 5 (.new true (.c (kb false))), cn (.st 1 (.s 5) (.c (kb false)))] [0, 2, 4, 5, 8]) (.seq (R [c0 9 (.mkf (.func 66) 0 [(.s 5), (.s 4)]), c0 6 (.tk (.s 9))] [0, 2, 4, 5, 6, 8]) (.seq (.seq (R [c0 10 (.mv (.s 0)), c0 11 (.mov 0 (.s 10)), c0 12 (.mov 22 (.s 11)), c0 13 (.ld false 18 (.s 12)), c0 14 (.len 1 (.s 13)), c0 15 (.mv (.c (ki .i64 0)))] [2, 4, 5, 6, 8, 13, 14, 15]) (.block 0 (LP [2, 4, 5, 6, 8, 13, 14, 15] (.seq (R [c0 16 (.bin .lss .any (.s 15) (.s 14))] [2, 4, 5, 6, 8, 13, 14, 15, 16]) (.seq (.ite (.s 16) (.skip) (.exit 0)) (.seq (.block 1 (.seq (R [c0 17 (.ixp 16 (.s 13) (.s 15)), c0 18 (.ld true 16 (.s 17)), c0 8 (.new false (.c (.agg [ki .i64 0, ki .i64 0, ki .i64 0, ki .i64 0, ki .i64 0, ki .i64 0, ki .i64 0, ki .i64 0, ki .i64 0, ks [], ks [], ki .i64 0, ki .i64 0, ki .i64 0, ki .i64 0, kn 3]))), cn (.st 16 (.s 8) (.s 18))] [2, 4, 5, 6, 8, 13, 14, 15]) (.seq (R [c0 19 (.mov 1 (.s 8)), c0 20 (.mov 0 (.s 19)), c0 21 (.ld false 1 (.s 20)), cb 22 (.bin .geq .any (.s 21) (.c (ki .i64 1))), cb 23 (.mv (.s 22)), cg 24 23 true (.mv (.s 6)), cg 25 23 true (.mov 1 (.s 8)), cg 26 23 true (.ld true 15 (.s 25)), ch 27 23 true (.call none (.s 24) [(.s 26)]), cb 28 (.pick (.s 23) (.s 27) (.c (kb false)))] [2, 4, 5, 6, 8, 13, 14, 15, 28]) (.ite (.s 28) (R [c0 29 (.mov 1 (.s 8)), c0 30 (.ld true 15 (.s 29)), cn (.st 15 (.s 4) (.s 30)), cn (.st 1 (.s 5) (.c (kb true)))] [2, 4, 5, 6, 8, 13, 14, 15]) (.skip))))) (R [c0 31 (.bin .add .any (.s 15) (.c (ki .i64 1))), c0 15 (.mv (.s 31))] [2, 4, 5, 6, 8, 13, 14, 15]))))))) (.seq (RD [cd (some 32) false none (.ld true 15 (.s 4)) false false [4], cd (some 33) true none (.ld false 1 (.s 5)) false false [5], cd none false none (.st 15 (.s 2) (.s 32)) false false [2, 32], cd (some 3) true none (.mv (.s 33)) false false [33]] [2, 3, 4, 5, 8] [11, 4]) (.ret))))))
theorem fun56 : Fun Try.prog cfg 56 34 cd56 [.b 2 true 15, .s 3] := ⟨rfl, Try.f56, _, Try.func56, rfl, rfl, by kernel_rfl, by kernel_rfl⟩
@[go_sem] theorem ok56 : calleeOK Try.prog 56 = true := by kernel_rfl
@[go_sem] theorem ex56 : (cfg.ext 56).isSome = false := rfl
def cd66 : Cd := .seq (R [c0 3 (.new false (.s 0)), cb 4 (.tk (.c (kb false)))] [1, 2, 3]) (.seq (R (cb 5 (.ld false 1 (.s 1)) :: cb 6 (.un .not (.s 5)) :: cb 7 (.mv (.s 6)) :: cg 8 7 false (.mov 3 (.s 2)) :: cg 9 7 false (.ld true 2 (.s 8)) :: cg 10 7 false (.mov 3 (.s 3)) :: cg 11 7 false (.ld true 2 (.s 10)) :: ch 12 7 false (.call none (.c (kf 23)) [(.s 9), (.s 11)]) :: cb 13 (.pick (.s 7) (.c (kb true)) (.s 12)) :: cb 14 (.mv (.s 13)) :: cg 15 14 false (.mov 3 (.s 2)) :: cg 16 14 false (.ld true 2 (.s 15)) :: cg 17 14 false (.mov 3 (.s 3)) :: cg 18 14 false (.ld true 2 (.s 17)) :: ch 19 14 false (.bin .eql (.flat [0, 0]) (.s 16) (.s 18)) :: ch 20 14 false (.mv (.s 19)) :: cg 21 20 true (.mov 0 (.s 2)) :: cg 22 20 true (.ld false 1 (.s 21)) :: cg 23 20 true (.mov 0 (.s 3)) :: cg 24 20 true (.ld false 1 (.s 23)) :: ch 25 20 true (.bin .lss .any (.s 22) (.s 24)) :: ch 26 14 false (.pick (.s 20) (.s 25) (.c (kb false))) :: cb 27 (.pick (.s 14) (.c (kb true)) (.s 26)) :: cb 4 (.tk (.s 27)) :: []) [3, 4]) (.ret))
theorem fun66 : Fun Try.prog cfg 66 28 cd66 [.s 4] := ⟨rfl, Try.f66, _, Try.func66, rfl, rfl, by kernel_rfl, by kernel_rfl⟩
@[go_sem] theorem ok66 : calleeOK Try.prog 66 = true := by kernel_rfl
@[go_sem] theorem ex66 : (cfg.ext 66).isSome = false := rfl
def cd57 : Cd := .seq (R [c0 1 (.new false (.s 0)), cb 2 (.tk (.c (kb false)))] [1, 3]) (.seq (R [c0 5 (.ld false 1 (.s 1)), c0 6 (.mov 0 (.s 5)), c0 7 (.mov 22 (.s 6)), c0 8 (.ld false 18 (.s 7)), c0 9 (.ixp 16 (.s 8) (.c (ki .i64 0))), c0 10 (.mov 1 (.s 9)), c0 11 (.ld true 15 (.s 10)), c0 3 (.new false (.c (.agg [ki .i64 0, ki .i64 0, ki .i64 0, ki .i64 0, ki .i64 0, ki .i64 0, ki .i64 0, ki .i64 0, ks [], ks [], ki .i64 0, ki .i64 0, ki .i64 0, ki .i64 0, kn 3]))), cn (.st 15 (.s 3) (.s 11))] [1, 3]) (.seq (R [c0 12 (.mkf (.func 67) 0 [(.s 1), (.s 3)]), c0 4 (.tk (.s 12))] [1, 3, 4]) (.seq (R [c0 13 (.ld false 1 (.s 1)), c0 14 (.mov 0 (.s 13)), c0 15 (.mov 22 (.s 14)), c0 16 (.ld false 18 (.s 15)), c0 17 (.mv (.s 4)), cb 18 (.call none (.c (kf 48)) [(.s 16), (.s 17)]), cb 19 (.un .not (.s 18)), cb 20 (.mv (.s 19)), cg 21 20 true (.ld false 1 (.s 1)), cg 22 20 true (.call none (.c (kf 42)) [(.s 21)]), ch 23 20 true (.call none (.c (kf 68)) [(.s 22)]), cb 24 (.pick (.s 20) (.s 23) (.c (kb false))), cb 2 (.tk (.s 24))] [1, 2, 3]) (.ret))))
theorem fun57 : Fun Try.prog cfg 57 25 cd57 [.s 2] := ⟨rfl, Try.f57, _, Try.func57, rfl, rfl, by kernel_rfl, by kernel_rfl⟩
@[go_sem] theorem ok57 : calleeOK Try.prog 57 = true := by kernel_rfl
@[go_sem] theorem ex57 : (cfg.ext 57).isSome = false := rfl
def cd67 : Cd := .seq (R [c0 3 (.new false (.s 0)), cb 4 (.mv (.c (kb false)))] [1, 2, 3]) (.seq (RD (cd (some 5) false none (.mov 1 (.s 3)) false false [3] :: cd (some 6) false none (.mov 0 (.s 5)) false false [5] :: cd (some 7) false none (.ld false 1 (.s 6)) false false [6] :: cd (some 8) true none (.bin .neq .any (.s 7) (.c (ki .i64 1))) false false [7] :: cd (some 9) true none (.mv (.s 8)) false false [8] :: cd (some 10) false (some (9, false)) (.mov 1 (.s 3)) false false [3] :: cd (some 11) false (some (9, false)) (.mov 3 (.s 10)) false false [10] :: cd (some 12) false (some (9, false)) (.ld true 2 (.s 11)) false false [11] :: cd (some 13) false (some (9, false)) (.ld false 1 (.s 1)) false false [1] :: cd (some 14) false (some (9, false)) (.mov 0 (.s 13)) false false [13] :: cd (some 15) false (some (9, false)) (.mov 3 (.s 14)) false false [14] :: cd (some 16) false (some (9, false)) (.ld true 3 (.s 15)) false false [15] :: cd (some 17) false (some (9, false)) (.call none (.c (kf 20)) [(.s 16)]) false false [16] :: cd (some 18) true (some (9, false)) (.bin .neq (.flat [0, 0]) (.s 12) (.s 17)) false false [12, 17] :: cd (some 19) true none (.pick (.s 9) (.c (kb true)) (.s 18)) false false [9, 18] :: cd (some 20) true none (.mv (.s 19)) false false [19] :: cd (some 21) false (some (20, false)) (.mov 1 (.s 3)) false false [3] :: cd (some 22) false (some (20, false)) (.mov 5 (.s 21)) false false [21] :: cd (some 23) false (some (20, false)) (.ld true 8 (.s 22)) false false [22] :: cd (some 24) false (some (20, false)) (.mov 5 (.s 2)) false false [2] :: cd (some 25) false (some (20, false)) (.ld true 8 (.s 24)) false false [24] :: cd (some 26) true (some (20, false)) (.bin .neq (.flat [0, 0, 0, 2, 2, 0, 0, 0]) (.s 23) (.s 25)) false false [23, 25] :: cd (some 27) true none (.pick (.s 20) (.c (kb true)) (.s 26)) false false [20, 26] :: cd (some 4) true none (.mv (.s 27)) false false [27] :: []) [3, 4] []) (.ret))
theorem fun67 : Fun Try.prog cfg 67 28 cd67 [.s 4] := ⟨rfl, Try.f67, _, Try.func67, rfl, rfl, by kernel_rfl, by kernel_rfl⟩
@[go_sem] theorem ok67 : calleeOK Try.prog 67 = true := by kernel_rfl
@[go_sem] theorem ex67 : (cfg.ext 67).isSome = false := rfl
def cd39 : Cd := .seq (R [cb 2 (.tk (.c (kb false)))] [0, 3]) (.seq (.seq (R [c0 5 (.mv (.s 0)), cb 6 (.call none (.c (kf 38)) [(.s 5)]), cb 7 (.un .not (.s 6))] [0, 3, 7]) (.ite (.s 7) (.seq (R [cb 2 (.tk (.c (kb false)))] [2, 3]) (.ret)) (.skip))) (.seq (R [c0 9 (.mv (.s 0)), c0 10 (.call none (.c (kf 56)) [(.s 9)]), c0 8 (.mv (.s 10)), c0 11 (.ext (.s 8) 0), cb 12 (.ext (.s 8) 1), c0 3 (.new false (.c (.agg [ki .i64 0, ki .i64 0, ki .i64 0, ki .i64 0, ki .i64 0, ki .i64 0, ki .i64 0, ki .i64 0, ks [], ks [], ki .i64 0, ki .i64 0, ki .i64 0, ki .i64 0, kn 3]))), cn (.st 15 (.s 3) (.s 11)), cb 4 (.tk (.s 12))] [0, 3, 4]) (.seq (.block 0 (.seq (R [cb 14 (.mv (.s 4)), cb 15 (.un .not (.s 14)), cb 13 (.tk (.s 15))] [0, 3, 13]) (.ite (.s 13) (.seq (R [c0 16 (.mv (.s 0)), c0 17 (.bld [ki .i64 0, ki .i64 0, ki .i64 0, ks [], ks [], ki .i64 0, ki .i64 0, ki .i64 0] []), c0 18 (.bld [ki .i64 0, kz 3] []), cb 19 (.call none (.c (kf 34)) [(.s 16), (.c (ki .i64 1)), (.s 17), (.s 18)]), cb 2 (.tk (.s 19))] [2, 3]) (.ret)) (.seq (R [c0 21 (.mov 0 (.s 3)), c0 22 (.ld false 1 (.s 21)), cb 23 (.bin .neq .any (.s 22) (.c (ki .i64 1))), cb 24 (.mv (.s 23)), cg 25 24 false (.mv (.s 0)), ch 26 24 false (.call none (.c (kf 57)) [(.s 25)]), cb 27 (.pick (.s 24) (.c (kb true)) (.s 26)), cb 20 (.tk (.s 27))] [0, 3, 20]) (.ite (.s 20) (.seq (R [c0 28 (.mv (.s 0)), c0 29 (.mov 5 (.s 3)), c0 30 (.ld true 8 (.s 29)), c0 31 (.mov 13 (.s 3)), c0 32 (.ld true 2 (.s 31)), cb 33 (.call none (.c (kf 34)) [(.s 28), (.c (ki .i64 1)), (.s 30), (.s 32)]), cb 2 (.tk (.s 33))] [2, 3]) (.ret)) (.skip)))))) (.seq (R [c0 34 (.mv (.s 0)), c0 35 (.mov 5 (.s 3)), c0 36 (.ld true 8 (.s 35)), c0 37 (.bld [ki .i64 0, kz 3] []), cb 38 (.call none (.c (kf 34)) [(.s 34), (.c (ki .i64 0)), (.s 36), (.s 37)]), cb 2 (.tk (.s 38))] [2, 3]) (.ret)))))
theorem fun39 : Fun Try.prog cfg 39 39 cd39 [.s 2] := ⟨rfl, Try.f39, _, Try.func39, rfl, rfl, by kernel_rfl, by kernel_rfl⟩
@[go_sem] theorem ok39 : calleeOK Try.prog 39 = true := by kernel_rfl
@[go_sem] theorem ex39 : (cfg.ext 39).isSome = false := rfl
def cd13 : Cd := .seq (R [c0 3 (.new false (.s 1)), cb 4 (.mv (.c (kb false)))] [0, 3]) (.seq (.seq (RD (cd (some 7) false none (.mov 3 (.s 3)) false false [3] :: cd (some 8) false none (.ld true 3 (.s 7)) false false [7] :: cd (some 9) false none (.mv (.s 0)) false false [0] :: cd (some 10) false none (.mov 0 (.s 9)) false false [9] :: cd (some 11) false none (.mov 3 (.s 10)) false false [10] :: cd (some 12) false none (.ld true 3 (.s 11)) false false [11] :: cd (some 13) true none (.bin .neq (.flat [0, 0, 0]) (.s 8) (.s 12)) false false [8, 12] :: cd (some 14) true none (.mv (.s 13)) false false [13] :: cd (some 15) false (some (14, false)) (.mv (.s 0)) false false [0] :: cd (some 16) false (some (14, false)) (.mov 0 (.s 15)) false false [15] :: cd (some 17) false (some (14, false)) (.mov 0 (.s 16)) false false [16] :: cd (some 18) false (some (14, false)) (.ld true 2 (.s 17)) false false [17] :: cd (some 19) false (some (14, false)) (.mov 1 (.s 3)) false false [3] :: cd (some 20) false (some (14, false)) (.ld false 1 (.s 19)) false false [19] :: cd (some 21) true (some (14, false)) (.call none (.c (kf 33)) [(.s 18), (.s 20)]) false false [18, 20] :: cd (some 22) true (some (14, false)) (.un .not (.s 21)) false false [21] :: cd (some 23) true none (.pick (.s 14) (.c (kb true)) (.s 22)) false false [14, 22] :: cd (some 24) true none (.mv (.s 23)) false false [23] :: cd (some 25) false (some (24, false)) (.mv (.s 0)) false false [0] :: cd (some 26) true (some (24, false)) (.call none (.c (kf 29)) [(.s 25)]) false false [25] :: cd (some 27) true none (.pick (.s 24) (.c (kb true)) (.s 26)) false false [24, 26] :: []) [0, 3, 27] []) (.ite (.s 27) (.seq (R [cb 4 (.mv (.c (kb false)))] [3, 4]) (.ret)) (.skip))) (.seq (.block 0 (.seq (R [c0 29 (.mov 0 (.s 3)), c0 30 (.ld false 1 (.s 29)), cb 31 (.bin .eql .any (.s 30) (.c (ki .i64 4))), cb 28 (.tk (.s 31))] [0, 3, 28]) (.ite (.s 28) (.seq (R [c0 32 (.mv (.s 0)), c0 33 (.mov 8 (.s 3)), c0 34 (.mov 5 (.s 33)), c0 35 (.ld true 8 (.s 34)), c0 36 (.mov 8 (.s 3)), c0 37 (.mov 13 (.s 36)), c0 38 (.ld true 2 (.s 37)), cb 39 (.call none (.c (kf 34)) [(.s 32), (.c (ki .i64 3)), (.s 35), (.s 38)]), cb 4 (.mv (.s 39))] [3, 4]) (.ret)) (.seq (RD [cd (some 41) false none (.mov 0 (.s 3)) false false [3], cd (some 42) false none (.ld false 1 (.s 41)) false false [41], cd (some 43) true none (.bin .eql .any (.s 42) (.c (ki .i64 7))) false false [42], cd (some 44) true none (.mv (.s 43)) false false [43], cd (some 45) false (some (44, true)) (.mv (.s 0)) false false [0], cd (some 46) false (some (44, true)) (.mov 0 (.s 45)) false false [45], cd (some 47) false (some (44, true)) (.mov 6 (.s 46)) false false [46], cd (some 48) false (some (44, true)) (.ld true 2 (.s 47)) false false [47], cd (some 49) false (some (44, true)) (.mov 6 (.s 3)) false false [3], cd (some 50) false (some (44, true)) (.ld true 2 (.s 49)) false false [49], cd (some 51) true (some (44, true)) (.call none (.c (kf 23)) [(.s 48), (.s 50)]) false false [48, 50], cd (some 52) true none (.pick (.s 44) (.s 51) (.c (kb false))) false false [44, 51], cd (some 40) true none (.mv (.s 52)) false false [52]] [0, 3, 40] []) (.ite (.s 40) (.seq (R [c0 53 (.mv (.s 0)), c0 54 (.mov 6 (.s 3)), c0 55 (.ld true 2 (.s 54)), c0 56 (.mov 0 (.s 53)), c0 57 (.mov 8 (.s 56)), cn (.st 2 (.s 57) (.s 55))] [0, 3]) (.seq (R [c0 58 (.mv (.s 0)), c0 59 (.bld [ki .i64 0, ki .i64 0, ki .i64 0, ks [], ks [], ki .i64 0, ki .i64 0, ki .i64 0] []), c0 60 (.bld [ki .i64 0, kz 3] []), cb 61 (.call none (.c (kf 34)) [(.s 58), (.c (ki .i64 4)), (.s 59), (.s 60)]), cb 4 (.mv (.s 61))] [3, 4]) (.ret))) (.skip)))))) (.seq (R [c0 63 (.mov 0 (.s 3)), c0 64 (.ld false 1 (.s 63)), c0 65 (.call none (.c (kf 35)) [(.s 64)]), c0 62 (.mv (.s 65)), c0 66 (.ext (.s 62) 0), cb 67 (.ext (.s 62) 1), c0 5 (.tk (.s 66)), cb 6 (.tk (.s 67))] [0, 3, 5, 6]) (.seq (.seq (RD (cd (some 68) true none (.mv (.s 6)) false false [6] :: cd (some 69) true none (.un .not (.s 68)) false false [68] :: cd (some 70) true none (.mv (.s 69)) false false [69] :: cd (some 71) false (some (70, false)) (.mv (.s 5)) false false [5] :: cd (some 72) false (some (70, false)) (.mv (.s 0)) false false [0] :: cd (some 73) false (some (70, false)) (.mov 0 (.s 72)) false false [72] :: cd (some 74) false (some (70, false)) (.mov 10 (.s 73)) false false [73] :: cd (some 75) false (some (70, false)) (.ld false 1 (.s 74)) false false [74] :: cd (some 76) true (some (70, false)) (.bin .neq .any (.s 71) (.s 75)) false false [71, 75] :: cd (some 77) true none (.pick (.s 70) (.c (kb true)) (.s 76)) false false [70, 76] :: cd (some 78) true none (.mv (.s 77)) false false [77] :: cd (some 79) false (some (78, false)) (.mov 6 (.s 3)) false false [3] :: cd (some 80) false (some (78, false)) (.ld true 2 (.s 79)) false false [79] :: cd (some 81) false (some (78, false)) (.mv (.s 0)) false false [0] :: cd (some 82) false (some (78, false)) (.mov 0 (.s 81)) false false [81] :: cd (some 83) false (some (78, false)) (.mov 6 (.s 82)) false false [82] :: cd (some 84) false (some (78, false)) (.ld true 2 (.s 83)) false false [83] :: cd (some 85) true (some (78, false)) (.bin .neq (.flat [0, 0]) (.s 80) (.s 84)) false false [80, 84] :: cd (some 86) true none (.pick (.s 78) (.c (kb true)) (.s 85)) false false [78, 85] :: cd (some 87) true none (.mv (.s 86)) false false [86] :: cd (some 88) false (some (87, false)) (.mv (.s 0)) false false [0] :: cd (some 89) false (some (87, false)) (.mov 1 (.s 3)) false false [3] :: cd (some 90) false (some (87, false)) (.ld false 1 (.s 89)) false false [89] :: cd (some 91) true (some (87, false)) (.call none (.c (kf 32)) [(.s 88), (.s 90)]) false false [88, 90] :: cd (some 92) true none (.pick (.s 87) (.c (kb true)) (.s 91)) false false [87, 91] :: []) [0, 3, 5, 92] []) (.ite (.s 92) (.seq (R [cb 4 (.mv (.c (kb false)))] [3, 4]) (.ret)) (.skip))) (.seq (R [c0 93 (.mov 8 (.s 3)), c0 94 (.mov 13 (.s 93)), c0 95 (.ld true 2 (.s 94)), c0 96 (.call none (.c (kf 36)) [(.s 95)]), c0 97 (.mov 8 (.s 3)), c0 98 (.mov 13 (.s 97)), cn (.st 2 (.s 98) (.s 96))] [0, 3, 5]) (.seq (RD [cd (some 99) false none (.mv (.s 0)) false false [0], cd (some 100) false none (.mv (.s 0)) false false [0], cd (some 101) false none (.mov 0 (.s 100)) false false [100], cd (some 102) false none (.mov 22 (.s 101)) false false [101], cd (some 103) false none (.ldx true false 18 (.s 102)) false false [102], cd (some 104) false none (.mov 1 (.s 3)) false false [3], cd (some 105) false none (.ld false 1 (.s 104)) false false [104], cd (some 106) false none (.mov 8 (.s 3)) false false [3], cd (some 107) false none (.ld true 15 (.s 106)) false false [106], cd (some 108) false none (.bld [ki .i64 0, ki .i64 0, ki .i64 0, ki .i64 0, ki .i64 0, ki .i64 0, ki .i64 0, ki .i64 0, ki .i64 0, ks [], ks [], ki .i64 0, ki .i64 0, ki .i64 0, ki .i64 0, kz 3] [(0, 1, (.s 105)), (1, 15, (.s 107))]) false false [105, 107], cd (some 109) false none (.bsl 16 [(.s 108)]) false false [108], cd (some 110) false none (.app 16 177 false (.s 103) (.s 109)) false false [103, 109], cd (some 111) false none (.mov 0 (.s 99)) false false [99], cd (some 112) false none (.mov 22 (.s 111)) false false [111], cd none false none (.st 1 (.s 112) (.s 110)) false false [112, 110]] [0, 3, 5] [208, 205, 212, 205]) (.seq (.seq (R [c0 113 (.mv (.s 5))] [0, 3, 113]) (.block 1 (.seq (R [cb 115 (.bin .eql .any (.s 113) (.c (ki .i64 0))), cb 114 (.tk (.s 115))] [0, 3, 113, 114]) (.ite (.s 114) (.seq (R [c0 116 (.mv (.s 0)), cb 117 (.call none (.c (kf 37)) [(.s 116)]), cb 4 (.mv (.s 117))] [3, 4]) (.ret)) (.seq (R [cb 119 (.bin .eql .any (.s 113) (.c (ki .i64 1))), cb 118 (.tk (.s 119))] [0, 3, 118]) (.ite (.s 118) (.seq (RD [cd (some 120) false none (.mv (.s 0)) false false [0], cd (some 121) true none (.call none (.c (kf 38)) [(.s 120)]) false false [120], cd (some 122) true none (.mv (.s 121)) false false [121], cd (some 123) false (some (122, true)) (.mv (.s 0)) false false [0], cd (some 124) false (some (122, true)) (.mv (.s 0)) false false [0], cd (some 125) false (some (122, true)) (.mov 0 (.s 124)) false false [124], cd (some 126) false (some (122, true)) (.mov 12 (.s 125)) false false [125], cd (some 127) false (some (122, true)) (.ld true 8 (.s 126)) false false [126], cd (some 128) false (some (122, true)) (.mv (.s 0)) false false [0], cd (some 129) false (some (122, true)) (.mov 0 (.s 128)) false false [128], cd (some 130) false (some (122, true)) (.mov 20 (.s 129)) false false [129], cd (some 131) false (some (122, true)) (.ld true 2 (.s 130)) false false [130], cd (some 132) true (some (122, true)) (.call none (.c (kf 34)) [(.s 123), (.c (ki .i64 3)), (.s 127), (.s 131)]) false false [123, 127, 131], cd (some 133) true none (.pick (.s 122) (.s 132) (.c (kb false))) false false [122, 132], cd (some 4) true none (.mv (.s 133)) false false [133]] [3, 4] []) (.ret)) (.skip))))))) (.seq (R [c0 134 (.mv (.s 0)), cb 135 (.call none (.c (kf 39)) [(.s 134)]), cb 4 (.mv (.s 135))] [3, 4]) (.ret)))))))))
theorem fun13 : Fun Try.prog cfg 13 136 cd13 [.s 4] := ⟨rfl, Try.f13, _, Try.func13, rfl, rfl, by kernel_rfl, by kernel_rfl⟩
@[go_sem] theorem ok13 : calleeOK Try.prog 13 = true := by kernel_rfl
@[go_sem] theorem ex13 : (cfg.ext 13).isSome = false := rfl
def cd15 : Cd := .seq (R [cb 2 (.mv (.c (kb false)))] [0]) (.seq (RD (cd (some 3) false none (.mv (.s 0)) false false [0] :: cd (some 4) false none (.mov 0 (.s 3)) false false [3] :: cd (some 5) false none (.mov 10 (.s 4)) false false [4] :: cd (some 6) false none (.ld false 1 (.s 5)) false false [5] :: cd (some 7) true none (.bin .eql .any (.s 6) (.c (ki .i64 0))) false false [6] :: cd (some 8) true none (.mv (.s 7)) false false [7] :: cd (some 9) false (some (8, true)) (.mv (.s 0)) false false [0] :: cd (some 10) false (some (8, true)) (.mov 0 (.s 9)) false false [9] :: cd (some 11) false (some (8, true)) (.mov 11 (.s 10)) false false [10] :: cd (some 12) true (some (8, true)) (.ld false 1 (.s 11)) false false [11] :: cd (some 13) true none (.pick (.s 8) (.s 12) (.c (kb false))) false false [8, 12] :: cd (some 14) true none (.mv (.s 13)) false false [13] :: cd (some 15) false (some (14, true)) (.mv (.s 0)) false false [0] :: cd (some 16) true (some (14, true)) (.call none (.c (kf 38)) [(.s 15)]) false false [15] :: cd (some 17) true none (.pick (.s 14) (.s 16) (.c (kb false))) false false [14, 16] :: cd (some 18) true none (.mv (.s 17)) false false [17] :: cd (some 19) false (some (18, true)) (.mv (.s 0)) false false [0] :: cd (some 20) false (some (18, true)) (.mv (.s 0)) false false [0] :: cd (some 21) false (some (18, true)) (.mov 0 (.s 20)) false false [20] :: cd (some 22) false (some (18, true)) (.mov 12 (.s 21)) false false [21] :: cd (some 23) false (some (18, true)) (.ld true 8 (.s 22)) false false [22] :: cd (some 24) false (some (18, true)) (.mv (.s 0)) false false [0] :: cd (some 25) false (some (18, true)) (.call none (.c (kf 42)) [(.s 24)]) false false [24] :: cd (some 26) false (some (18, true)) (.call none (.c (kf 41)) [(.s 25)]) false false [25] :: cd (some 27) true (some (18, true)) (.call none (.c (kf 34)) [(.s 19), (.c (ki .i64 1)), (.s 23), (.s 26)]) false false [19, 23, 26] :: cd (some 28) true none (.pick (.s 18) (.s 27) (.c (kb false))) false false [18, 27] :: cd (some 2) true none (.mv (.s 28)) false false [28] :: []) [2] []) (.ret))
theorem fun15 : Fun Try.prog cfg 15 29 cd15 [.s 2] := ⟨rfl, Try.f15, _, Try.func15, rfl, rfl, by kernel_rfl, by kernel_rfl⟩
@[go_sem] theorem ok15 : calleeOK Try.prog 15 = true := by kernel_rfl
@[go_sem] theorem ex15 : (cfg.ext 15).isSome = false := rfl
variable {h : DHeap}
theorem attrs_lim {i : Nat} {L : Ld} (H : AtL h i L) (hl : L.vo.length ≤ 100000) : lim Try.prog cfg 42 [.ptr i 0] h = some (.list true 2 (ats (attrsL L)), h) := by
  refine lim_ext rfl ?_ rfl
  show lookF Try.prog cfg0 42 [.ptr i 0] h = _
  exact lookF_eq (M0.attrs_lim H hl)
theorem att_at {l : List Att} {k : Nat} (hk : k < l.length) (N : List DV → Prop) : IdxP (ats l) (Nf (k : Int)) N = N [vi l[k].seq, .list false 3 (idr l[k].deps)] := by
  show IdxP (ats l) (k : Int) N = _
  rw [idxP_ats]
  simp [IdxP, hk]
theorem idxA_lim (own : Bool) (l : List Att) (k : FuncId) (fs cs : List DV) (F : Att → Bool) (hok : calleeOK Try.prog k = true)
    (hF : ∀ v ∈ l, lim Try.prog cfg k (fs ++ [attD v] ++ cs) h = some (vb (F v), h)) (hl : l.length ≤ 1099511627776) :
    lim Try.prog cfg 63 [.list own 2 (ats l), .fn (.func k) fs cs] h = some (vi (posI F l), h) := by
  refine lim_fun fun63 rfl (by simp) rfl ?_
  delta cd63
  simp -implicitDefEqProofs -dsimp only [go_sem]
  refine wp_for (σ := Nat) (fun i => [(0, .list false 2 (ats l)), (1, .fn (.func k) fs cs), (7, vi (l.length : Nat)), (8, vi (i : Nat))]) (fun _ => h) (fun i => l.length - i) (fun i => i ≤ l.length ∧ ∀ j (hl : j < l.length), j < i → F l[j] = false) 0 (by simp) rfl rfl ?_
  rintro i ⟨hi, hj⟩ N hN
  by_cases h2 : i < l.length
  · have h1 : (i : Int) < (l.length : Int) := by omega
    have q := fun N => att_at h2 N
    have hf := hF l[i] (List.getElem_mem h2)
    cases hc : F l[i] with
    | true =>
      rw [hc] at hf
      have e := posI_at (p := F) h2 hc hj
      simp -implicitDefEqProofs -dsimp only [go_sem, ↓q, h1, hok, hf, e]
    | false =>
      rw [hc] at hf
      simp -implicitDefEqProofs -dsimp only [go_sem, ↓q, h1, hok, hf]
      refine hN (i + 1) _ (by omega) ⟨by omega, fun j hjl hji => ?_⟩ (by simp -implicitDefEqProofs -dsimp only [go_sem, wrap_succ (show i < 9223372036854775807 by omega)])
      by_cases hij : j = i
      · subst hij; exact hc
      · exact hj j hjl (by omega)
  · have h1 : ¬ (i : Int) < (l.length : Int) := by omega
    have e := posI_no (p := F) (l := l) fun j hjl => hj j hjl (by omega)
    simp -implicitDefEqProofs -dsimp only [go_sem, h1, e]
theorem conA_lim (own : Bool) (l : List Att) (k : FuncId) (fs cs : List DV) (F : Att → Bool) (hok : calleeOK Try.prog k = true)
    (hF : ∀ v ∈ l, lim Try.prog cfg k (fs ++ [attD v] ++ cs) h = some (vb (F v), h)) (hl : l.length ≤ 1099511627776) :
    lim Try.prog cfg 54 [.list own 2 (ats l), .fn (.func k) fs cs] h = some (vb (l.any F), h) := by
  refine lim_fun fun54 rfl (by simp) rfl ?_
  delta cd54
  have hx := idxA_lim (h := h) false l k fs cs F hok hF hl
  have e := posI_ge F l
  simp -implicitDefEqProofs -dsimp only [go_sem, hx]
  rw [← e]
  exact ⟨fun h1 => by simp [h1], fun h1 => by simp [h1]⟩
theorem prop1_lim {i : Nat} {L : Ld} (H : AtL h i L) (a : Att) (h1 : a.deps.length ≤ 1048576) (h2 : L.att.deps.length ≤ 1048576) : lim Try.prog cfg 52 [attD a, .eptr [.ptr i 0]] h = some (vb (!sameA a L.att), h) := by
  refine lim_fun fun52 rfl (by simp) rfl ?_
  delta cd52
  have e1 := sameA_lim (h := h) a L.att h1 h2
  cases hs : sameA a L.att <;> rw [hs] at e1 <;> simp -implicitDefEqProofs -dsimp only [go_sem, wp_RD, postC_path2, Nat.reduceDiv, H.obj, e1] <;> rfl
/-- How great what a lead holds may be. -/
structure LdOK (n : Nat) (L : Ld) : Prop where
  nodes : L.con.nodes.length ≤ 1048576
  vo : L.vo.length ≤ n
  att : L.att.deps.length ≤ 61 * n + 100
  deps : ∀ v ∈ L.vo, v.2.att.deps.length ≤ 61
theorem allA_len (l : List Att) (B : Nat) (h : ∀ a ∈ l, a.deps.length ≤ B) : (allA l).deps.length ≤ l.length * B := by
  cases l with
  | nil => simp [allA]
  | cons a l =>
    have := fold_len ⟨a.seq, []⟩ (a :: l) (a :: l).length B h
    rw [List.take_length] at this
    simp only [List.length_nil, Nat.zero_add] at this
    exact this
set_option maxHeartbeats 4000000 in
theorem proposed_lim {i n : Nat} {L : Ld} (H : AtL h i L) (O : LdOK n L) (hn : n ≤ 100) : lim Try.prog cfg 37 [.ptr i 0] h = some (vb (proposedL L).1, h.set i (.cells (cellsL (proposedL L).2 (votD (proposedL L).2)))) := by
  have hs : h.set i (.cells (cellsL L (votD L))) = h := set_same15 H.o
  have hv := O.vo
  have ha := O.att
  have e1 := attrs_lim H (by omega)
  have hd : ∀ a ∈ attrsL L, a.deps.length ≤ 1000 := fun a ha => by
    obtain ⟨v, hv, rfl⟩ := List.mem_map.1 ha
    have := O.deps v hv
    omega
  have hal : (attrsL L).length ≤ 500 := by unfold attrsL; rw [List.length_map]; omega
  have e2 := fun own => conA_lim (h := h) own (attrsL L) 52 [] [.eptr [.ptr i 0]] (fun a => !sameA a L.att) (by kernel_rfl) (fun a h2 => prop1_lim H a (by have := hd a h2; omega) (by omega)) (by omega)
  have e3 := wait_lim H O.nodes (by omega)
  have e4 := turn_lim H 3 L.cmd L.att (by omega)
  have e5 := enoughL_lim H O.nodes (by omega)
  have e6 := fun own => allA_lim (h := h) own (attrsL L) hal hd
  have hal2 : (allA (attrsL L)).deps.length ≤ 1048576 := by
    have h1 := allA_len (attrsL L) 1000 hd
    have h2 : (attrsL L).length * 1000 ≤ 500 * 1000 := Nat.mul_le_mul_right _ hal
    omega
  have e7 := turn_lim H 1 L.cmd (allA (attrsL L)) hal2
  refine lim_fun fun37 rfl (by simp) rfl ?_
  delta cd37
  cases c1 : L.first with
  | false =>
    cases c3 : enoughL L with
    | true =>
      rw [c3] at e5
      have ep : proposedL L = (true, turnL L 1 L.cmd (allA (attrsL L))) := by unfold proposedL; simp [c1, c3]
      rw [ep]
      simp -implicitDefEqProofs -dsimp only [go_sem, H.obj, c1, e1, e5, e6, e7]
    | false =>
      rw [c3] at e5
      have ep : proposedL L = (false, L) := by unfold proposedL; simp [c1, c3]
      rw [ep]
      simp -implicitDefEqProofs -dsimp only [go_sem, H.obj, c1, e1, e5]
      exact hs.symm
  | true =>
    cases c2 : (attrsL L).any (fun a => !sameA a L.att) with
    | true =>
      simp only [c2] at e2
      cases c3 : enoughL L with
      | true =>
        rw [c3] at e5
        have ep : proposedL L = (true, turnL L 1 L.cmd (allA (attrsL L))) := by unfold proposedL; rw [c1, c2, c3]; rfl
        rw [ep]
        simp -implicitDefEqProofs -dsimp only [go_sem, H.obj, c1, e1, e2, e5, e6, e7]
      | false =>
        rw [c3] at e5
        have ep : proposedL L = (false, L) := by unfold proposedL; rw [c1, c2, c3]; rfl
        rw [ep]
        simp -implicitDefEqProofs -dsimp only [go_sem, H.obj, c1, e1, e2, e5]
        exact hs.symm
    | false =>
      simp only [c2] at e2
      by_cases c4 : (waitL L).length = 0
      · have c4' : ((waitL L).length : Int) = 0 := by omega
        have ep : proposedL L = (true, turnL L 3 L.cmd L.att) := by unfold proposedL; rw [c1, c2, if_pos (by rfl), if_pos c4]
        rw [ep]
        simp -implicitDefEqProofs -dsimp only [go_sem, H.obj, c1, e1, e2, e3, eq_true c4', e4]
      · have c4' : ¬ ((waitL L).length : Int) = 0 := by omega
        have ep : proposedL L = (false, L) := by unfold proposedL; rw [c1, c2, if_pos (by rfl), if_neg c4]
        rw [ep]
        simp -implicitDefEqProofs -dsimp only [go_sem, H.obj, c1, e1, e2, e3, eq_false c4']
        exact hs.symm
end Go.DS

/-
  Walks: what a lead makes of what it is told.
-/
namespace Go.DS
open Go Go.Proofs
set_option maxRecDepth 100000
set_option linter.unusedVariables false
set_option linter.unusedSimpArgs false
variable {h : DHeap}
def HBl (h : DHeap) : Prop := h.all (belowO h.length) = true
theorem below_vots (n : Nat) : ∀ l : List (Int × Ins), below.alls n (vots l) = true
  | [] => rfl
  | s :: l => by
    have := below_vots n l
    simp only [vots] at this
    simp only [vots, List.map_cons, below.alls, below.all, below, below_idr, this, Bool.and_self]
theorem below_L (n : Nat) (L : Ld) : belowO n (.cells (cellsL L (votD L))) = true := by
  unfold votD
  split <;> simp only [belowO, below, below.all, below_vnums, below_idr, below_vots, List.all_cons, List.all_nil, Bool.and_true, Bool.true_and]
theorem best1_lim {j1 j2 : Nat} {s : Ins × Bool} (H1 : h[j1]? = some (.cells [vb s.2])) (H2 : h[j2]? = some (.cells (insL s.1))) (x : Ins) :
    lim Try.prog cfg 66 [insD x, .ptr j1 0, .ptr j2 0] h = some (vb (moreP s x), h) := by
  refine lim_fun fun66 rfl (by simp) rfl ?_
  delta cd66
  have o1 : ∀ N, ObjP h j1 N = N [vb s.2] := fun N => by simp only [ObjP, H1]
  have o2 : ∀ N, ObjP h j2 N = N (insL s.1) := fun N => by simp only [ObjP, H2]
  have e1 := lessB_lim (h := h) s.1.vot x.vot
  obtain ⟨b, f⟩ := s
  unfold moreP
  dsimp only at *
  cases f with
  | false => simp -implicitDefEqProofs -dsimp only [go_sem, o1, o2] <;> rfl
  | true =>
    cases c1 : lessB b.vot x.vot with
    | true => rw [c1] at e1; simp -implicitDefEqProofs -dsimp only [go_sem, o1, o2, e1] <;> rfl
    | false =>
      rw [c1] at e1
      by_cases c2 : b.vot = x.vot
      · by_cases c3 : b.st < x.st
        · simp -implicitDefEqProofs -dsimp only [go_sem, o1, o2, e1, eq_true c2, c3] <;> simp [c2, c3]
        · simp -implicitDefEqProofs -dsimp only [go_sem, o1, o2, e1, eq_true c2, c3] <;> simp [c2, c3]
      · simp -implicitDefEqProofs -dsimp only [go_sem, o1, o2, e1, eq_false c2] <;> simp [c2]
def stepB (s : Ins × Bool) (v : Int × Ins) : Ins × Bool := if decide (1 ≤ v.2.st) && moreP s v.2 then (v.2, true) else s
theorem best_take {l : List (Int × Ins)} {k : Nat} (hk : k < l.length) : (l.take (k + 1)).foldl stepB (ins0, false) = stepB ((l.take k).foldl stepB (ins0, false)) l[k] := by
  rw [List.take_succ_eq_append_getElem hk, List.foldl_append]; rfl
set_option maxHeartbeats 4000000 in
theorem best_lim {i : Nat} {L : Ld} (H : AtL h i L) (hl : L.vo.length ≤ 100000) (B : HBl h) : lim Try.prog cfg 56 [.ptr i 0] h = some (.tup [insD (bestL L.vo).1, vb (bestL L.vo).2], h) := by
  have hn := H.nil
  have hlt := H.lt
  have ho : ∀ (x : List DObj) (N : List DV → Prop), ObjP (h ++ x) i N = N (cellsL L (votD L)) := fun x N => by
    have : (h ++ x)[i]? = some (.cells (cellsL L (votD L))) := by rw [List.getElem?_append_left hlt]; exact H.o
    simp only [ObjP, this]
  have p1 : ∀ (a : List DV) (x : List DObj) (N : List DV → Prop), ObjP (h ++ .cells a :: x) h.length N = N a := fun a x N => by simp [ObjP]
  have p2 : ∀ (a : DObj) (b : List DV) (N : List DV → Prop), ObjP (h ++ [a, .cells b]) (h.length + 1) N = N b := fun a b N => by simp [ObjP]
  have s1 : ∀ (a b c : DObj), (h ++ [a, b]).set h.length c = h ++ [c, b] := fun a b c => by simp
  have s2 : ∀ (a b c : DObj), (h ++ [a, b]).set (h.length + 1) c = h ++ [a, c] := fun a b c => by simp
  have aa : ∀ (a b : DObj), h ++ [a] ++ [b] = h ++ [a, b] := fun a b => by simp
  have ll : ∀ (a : DObj), (h ++ [a]).length = h.length + 1 := fun a => by simp
  have fin : ∀ (x : List DObj) (b : Ins) (f : Bool), (below h.length (.tup [insD b, vb f]) && ((h ++ x).take h.length).all (belowO h.length)) = true ∧ h.length ≤ (h ++ x).length ∧ (h ++ x).take h.length = h := fun x b f => by
    have e : (h ++ x).take h.length = h := by simp
    refine ⟨?_, by simp, e⟩
    rw [e, show h.all (belowO h.length) = true from B]
    simp only [below, below.all, below_idr, Bool.and_self]
  clear H
  refine lim_fung fun56 rfl rfl (by simp) rfl ?_
  delta cd56
  obtain ⟨con, node, id, bal, btn, ph, first, cmd, att, vo, rw⟩ := L
  dsimp only at *
  cases rw with
  | true =>
    have hv := hn rfl
    subst hv
    simp only [cellsL, votD, if_true] at ho
    simp -implicitDefEqProofs -dsimp only [go_sem, aa, ll, ho, p1, p2, s1, s2]
    refine wp_for (σ := Nat) (fun k => [(2, .box [vi 0, vi 0, vi 0, vi 0, vi 0, vi 0, vi 0, vi 0, vs [], vs [], vi 0, vi 0, vi 0, vi 0, .list false 3 []]), (4, .ptr h.length 0), (5, .ptr (h.length + 1) 0), (6, .fn (.func 66) [] [.ptr (h.length + 1) 0, .ptr h.length 0]), (8, .junk), (13, .list true 16 []), (14, vi 0), (15, vi 0)])
      (fun _ => h ++ [.cells (insL ins0), .cells [vb false]]) (fun k => 0) (fun k => True) 0 trivial rfl rfl ?_
    rintro k _ N hN
    simp -implicitDefEqProofs -dsimp only [go_sem, wp_RD, postC_path2, Nat.reduceDiv, p1, p2]
    exact ⟨rfl, fin _ _ _⟩
  | false =>
    simp only [cellsL, votD, Bool.false_eq_true, if_false] at ho
    simp -implicitDefEqProofs -dsimp only [go_sem, aa, ll, ho, p1, p2, s1, s2]
    refine wp_for (σ := Nat × DV) (fun s => [(2, .box [vi 0, vi 0, vi 0, vi 0, vi 0, vi 0, vi 0, vi 0, vs [], vs [], vi 0, vi 0, vi 0, vi 0, .list false 3 []]), (4, .ptr h.length 0), (5, .ptr (h.length + 1) 0), (6, .fn (.func 66) [] [.ptr (h.length + 1) 0, .ptr h.length 0]), (8, s.2), (13, .list false 16 (vots vo)), (14, vi (vo.length : Nat)), (15, vi (s.1 : Nat))])
      (fun s => h ++ [.cells (insL ((vo.take s.1).foldl stepB (ins0, false)).1), .cells [vb ((vo.take s.1).foldl stepB (ins0, false)).2]]) (fun s => vo.length - s.1) (fun s => s.1 ≤ vo.length) (0, .junk) (Nat.zero_le _) rfl rfl ?_
    rintro ⟨k, y⟩ hk N hN
    dsimp only at hk
    by_cases hlt2 : k < vo.length
    · have h1 : (k : Int) < (vo.length : Int) := by omega
      have q := fun N => vot_at hlt2 N
      have es := best_take hlt2
      have N2 := fun y => hN (k + 1, y)
      dsimp only at N2
      rw [es] at N2
      clear hN es
      dsimp only
      generalize (vo.take k).foldl stepB (ins0, false) = s at *
      have e1 := best1_lim (h := h ++ [.cells (insL s.1), .cells [vb s.2]]) (j1 := h.length + 1) (j2 := h.length) (s := s) (by simp) (by simp) vo[k].2
      have hok : calleeOK Try.prog 66 = true := by kernel_rfl
      by_cases c1 : 1 ≤ vo[k].2.st
      · cases c2 : moreP s vo[k].2 with
        | true =>
          rw [c2] at e1
          have e2 : stepB s vo[k] = (vo[k].2, true) := by unfold stepB; rw [decide_eq_true c1, c2]; rfl
          rw [e2] at N2
          simp -implicitDefEqProofs -dsimp only [go_sem, ↓q, h1, c1, hok, e1, p1, p2, s1, s2]
          refine N2 (votBox vo[k]) _ (by omega) (by omega) ?_
          simp -implicitDefEqProofs -dsimp only [go_sem, wrap_succ (show k < 9223372036854775807 by omega)]
        | false =>
          rw [c2] at e1
          have e2 : stepB s vo[k] = s := by unfold stepB; rw [decide_eq_true c1, c2]; rfl
          rw [e2] at N2
          simp -implicitDefEqProofs -dsimp only [go_sem, ↓q, h1, c1, hok, e1, p1, p2, s1, s2]
          refine N2 (votBox vo[k]) _ (by omega) (by omega) ?_
          simp -implicitDefEqProofs -dsimp only [go_sem, wrap_succ (show k < 9223372036854775807 by omega)]
      · have e2 : stepB s vo[k] = s := by unfold stepB; rw [decide_eq_false c1]; rfl
        rw [e2] at N2
        simp -implicitDefEqProofs -dsimp only [go_sem, ↓q, h1, c1, p1, p2, s1, s2]
        refine N2 (votBox vo[k]) _ (by omega) (by omega) ?_
        simp -implicitDefEqProofs -dsimp only [go_sem, wrap_succ (show k < 9223372036854775807 by omega)]
    · have h1 : ¬ (k : Int) < (vo.length : Int) := by omega
      have eb : bestL vo = (vo.take k).foldl stepB (ins0, false) := by rw [List.take_of_length_le (by omega)]; rfl
      rw [eb]
      dsimp only
      generalize (vo.take k).foldl stepB (ins0, false) = s at *
      obtain ⟨b, f⟩ := s
      cases f <;> simp -implicitDefEqProofs -dsimp only [go_sem, wp_RD, postC_path2, Nat.reduceDiv, h1, p1, p2] <;> first | exact ⟨rfl, fin _ _ _⟩ | exact fin _ _ _
end Go.DS

/-
  Walks: what a lead makes of what others know.
-/
namespace Go.DS
open Go Go.Proofs
set_option maxRecDepth 100000
set_option linter.unusedVariables false
set_option linter.unusedSimpArgs false
variable {h : DHeap}
def alikeL (L : Ld) : Bool := match L.vo with
  | [] => false
  | v :: _ => !(L.vo.any (oddL L v.2)) && agreeP (attrsL L)
def askedL (L : Ld) : Bool × Ld :=
  if enoughL L = false then (false, L)
  else if (bestL L.vo).2 = false then (true, turnL L 1 ⟨0, 0, 0, [], [], 0, 0, 0⟩ ⟨0, []⟩)
  else if (bestL L.vo).1.st ≠ 1 then (true, turnL L 1 (bestL L.vo).1.cmd (bestL L.vo).1.att)
  else if alikeL L = true then (true, turnL L 1 (bestL L.vo).1.cmd (bestL L.vo).1.att)
  else (true, turnL L 0 (bestL L.vo).1.cmd ⟨0, []⟩)
theorem alike1_lim {i : Nat} {L : Ld} (H : AtL h i L) (v : Int × Ins) (x : Ins) : lim Try.prog cfg 67 [votA v, .eptr [.ptr i 0], .eptr (insL x)] h = some (vb (oddL L x v), h) := by
  refine lim_fun fun67 rfl (by simp) rfl ?_
  delta cd67
  have e1 := firstB_lim (h := h) L.id
  unfold oddL
  by_cases c1 : v.2.st = 1
  case neg => simp -implicitDefEqProofs -dsimp only [go_sem, postC_path2, Nat.reduceDiv, H.obj, eq_false c1] <;> simp [c1]
  have e2 : (v.2.vot = firstB L.id) = (v.2.vot.no = 0 ∧ v.2.vot.node = L.id.n) := by
    unfold firstB
    obtain ⟨a, b⟩ := v.2.vot
    simp
  by_cases c2 : v.2.vot = firstB L.id
  case neg =>
    have q : eqs [0, 0] [vi v.2.vot.no, vi v.2.vot.node] [vi 0, vi L.id.n] = some false := by
      have := eqs_bal v.2.vot (firstB L.id)
      rw [decide_eq_false c2] at this
      exact this
    simp -implicitDefEqProofs -dsimp only [go_sem, postC_path2, Nat.reduceDiv, H.obj, eq_true c1, e1, q] <;> simp [c1, c2]
  have q : eqs [0, 0] [vi v.2.vot.no, vi v.2.vot.node] [vi 0, vi L.id.n] = some true := by
    have := eqs_bal v.2.vot (firstB L.id)
    rw [decide_eq_true c2] at this
    exact this
  by_cases c3 : v.2.cmd = x.cmd
  · simp -implicitDefEqProofs -dsimp only [go_sem, postC_path2, Nat.reduceDiv, H.obj, eq_true c1, e1, q, eq_true c3] <;> simp [c1, c2, c3]
  · simp -implicitDefEqProofs -dsimp only [go_sem, postC_path2, Nat.reduceDiv, H.obj, eq_true c1, e1, q, eq_false c3] <;> simp [c1, c2, c3]
theorem vot0 (v : Int × Ins) (l : List (Int × Ins)) (N : List DV → Prop) : IdxP (vots (v :: l)) (Nf (0 : Int)) N = N [vi v.1, vi v.2.st, vi v.2.pro.no, vi v.2.pro.node, vi v.2.vot.no, vi v.2.vot.node, vi v.2.cmd.client, vi v.2.cmd.seq, vi v.2.cmd.op, vs v.2.cmd.path, vs v.2.cmd.value, vi v.2.cmd.version, vi v.2.cmd.a, vi v.2.cmd.b, vi v.2.att.seq, .list false 3 (idr v.2.att.deps)] := vot_at (l := v :: l) (k := 0) (by simp) N
set_option maxHeartbeats 2000000 in
theorem alike_lim {i n : Nat} {L : Ld} (H : AtL h i L) (O : LdOK n L) (hn : n ≤ 100) (hr : L.rw = false) (hv : L.vo ≠ []) : lim Try.prog cfg 57 [.ptr i 0] h = some (vb (alikeL L), h) := by
  have ho := H.obj
  have hvo := O.vo
  have e1 := attrs_lim H (by omega)
  have hd : ∀ a ∈ attrsL L, a.deps.length ≤ 1048576 := fun a ha => by
    obtain ⟨v, hv, rfl⟩ := List.mem_map.1 ha
    have := O.deps v hv
    omega
  have e2 := fun own => agree_lim (h := h) own (attrsL L) (by unfold attrsL; rw [List.length_map]; omega) hd
  have e3 := fun own x => conV_lim (h := h) own L.vo 67 [] [.eptr [.ptr i 0], .eptr (insL x)] (oddL L x) (by kernel_rfl) rfl rfl (fun v _ => alike1_lim H v x) (by omega)
  simp only [cellsL, votD, hr, Bool.false_eq_true, if_false] at ho
  refine lim_fun fun57 rfl (by simp) rfl ?_
  delta cd57
  unfold alikeL
  cases hl : L.vo with
  | nil => exact absurd hl hv
  | cons v l =>
    rw [hl] at ho e3
    have q0 := vot0 v l
    have e3 := fun own => e3 own v.2
    dsimp only
    cases c1 : (v :: l).any (oddL L v.2) with
    | true =>
      simp only [c1] at e3
      simp -implicitDefEqProofs -dsimp only [go_sem, ↓q0, ho, e3]
      rfl
    | false =>
      simp only [c1] at e3
      cases c2 : agreeP (attrsL L) <;> simp only [c2] at e2 <;> simp -implicitDefEqProofs -dsimp only [go_sem, ↓q0, ho, e1, e2, e3] <;> rfl
end Go.DS

/-
  Walks: a lead hears.
-/
namespace Go.DS
open Go Go.Proofs
set_option maxRecDepth 100000
set_option linter.unusedVariables false
set_option linter.unusedSimpArgs false
variable {h : DHeap}
theorem wp_RDc {P : Program} {C : Cfg} {n : Nat} {l : List Cop} {k rs : List Nat} {x : Nat} {a : AF} {h : DHeap} {Q : XD → AF → DHeap → Prop} : WP P C n (RD l k (x :: rs)) a h Q = (DrawP (some (x :: rs)) a ∧ WOps P C n (some (x :: rs)) l a h fun a' h' => NfP (Nf (keepA (some k) a')) fun a'' => Q .normal a'' h') := rfl
theorem best_some {l : List (Int × Ins)} (hb : (bestL l).2 = true) : l ≠ [] := by rintro rfl; cases hb
theorem best_mem (l : List (Int × Ins)) : ∀ s : Ins × Bool, (l.foldl stepB s).1 = s.1 ∨ ∃ v ∈ l, (l.foldl stepB s).1 = v.2 := by
  induction l with
  | nil => exact fun s => .inl rfl
  | cons v l ih =>
    intro s
    rw [List.foldl_cons]
    rcases ih (stepB s v) with e | ⟨u, hu, e⟩
    · rw [e]
      unfold stepB
      split
      · exact .inr ⟨v, List.mem_cons_self, rfl⟩
      · exact .inl rfl
    · exact .inr ⟨u, List.mem_cons_of_mem _ hu, e⟩
theorem best_small {n : Nat} {L : Ld} (O : LdOK n L) : (bestL L.vo).1.att.deps.length ≤ 61 := by
  rcases best_mem L.vo (ins0, false) with e | ⟨v, hv, e⟩
  · show (L.vo.foldl stepB (ins0, false)).1.att.deps.length ≤ 61
    rw [e]; simp [ins0]
  · show (L.vo.foldl stepB (ins0, false)).1.att.deps.length ≤ 61
    rw [e]; exact O.deps v hv
set_option maxHeartbeats 4000000 in
theorem asked_lim {i n : Nat} {L : Ld} (H : AtL h i L) (O : LdOK n L) (hn : n ≤ 100) (B : HBl h) : lim Try.prog cfg 39 [.ptr i 0] h = some (vb (askedL L).1, h.set i (.cells (cellsL (askedL L).2 (votD (askedL L).2)))) := by
  have hs : h.set i (.cells (cellsL L (votD L))) = h := set_same15 H.o
  have hv := O.vo
  have e1 := enoughL_lim H O.nodes (by omega)
  have e2 := best_lim H (by omega) B
  have bs := best_small O
  have e3 : lim Try.prog cfg 34 [.ptr i 0, vi 1, .agg [vi 0, vi 0, vi 0, vs [], vs [], vi 0, vi 0, vi 0], .agg [vi 0, .list false 3 []]] h = some (vb true, h.set i (.cells (cellsL (turnL L 1 ⟨0, 0, 0, [], [], 0, 0, 0⟩ ⟨0, []⟩) (votD (turnL L 1 ⟨0, 0, 0, [], [], 0, 0, 0⟩ ⟨0, []⟩))))) := turn_lim H 1 ⟨0, 0, 0, [], [], 0, 0, 0⟩ ⟨0, []⟩ (by simp)
  have e4 := turn_lim H 1 (bestL L.vo).1.cmd (bestL L.vo).1.att (by omega)
  have e5 : lim Try.prog cfg 34 [.ptr i 0, vi 0, cmdD (bestL L.vo).1.cmd, .agg [vi 0, .list false 3 []]] h = some (vb true, h.set i (.cells (cellsL (turnL L 0 (bestL L.vo).1.cmd ⟨0, []⟩) (votD (turnL L 0 (bestL L.vo).1.cmd ⟨0, []⟩))))) := turn_lim H 0 (bestL L.vo).1.cmd ⟨0, []⟩ (by simp)
  have e6 : (bestL L.vo).2 = true → lim Try.prog cfg 57 [.ptr i 0] h = some (vb (alikeL L), h) := fun hb => by
    have hne := best_some hb
    exact alike_lim H O hn (by cases hr : L.rw with | false => rfl | true => exact absurd (H.nil hr) hne) hne
  refine lim_fun fun39 rfl (by simp) rfl ?_
  delta cd39
  unfold askedL
  cases c1 : enoughL L with
  | false =>
    rw [c1] at e1
    rw [if_pos rfl]
    simp -implicitDefEqProofs -dsimp only [go_sem, e1]
    exact hs.symm
  | true =>
  rw [c1] at e1
  rw [if_neg (by simp)]
  generalize (bestL L.vo) = s at *
  obtain ⟨b, f⟩ := s
  dsimp only at *
  cases f with
  | false =>
    rw [if_pos rfl]
    simp -implicitDefEqProofs -dsimp only [go_sem, e1, e2, e3] <;> first | rfl | exact ⟨rfl, rfl⟩
  | true =>
  have e6 := e6 rfl
  rw [if_neg (by simp)]
  by_cases c2 : b.st = 1
  · rw [if_neg (by simp [c2])]
    cases c3 : alikeL L with
    | true =>
      rw [c3] at e6
      rw [if_pos rfl]
      simp -implicitDefEqProofs -dsimp only [go_sem, e1, e2, e4, e6, eq_true c2] <;> first | rfl | exact ⟨rfl, rfl⟩
    | false =>
      rw [c3] at e6
      rw [if_neg (by simp)]
      simp -implicitDefEqProofs -dsimp only [go_sem, e1, e2, e5, e6, eq_true c2] <;> first | rfl | exact ⟨rfl, rfl⟩
  · rw [if_pos c2]
    simp -implicitDefEqProofs -dsimp only [go_sem, e1, e2, e4, eq_false c2] <;> first | rfl | exact ⟨rfl, rfl⟩
/-- What hearing comes to. -/
def hearL (L : Ld) (m : Mes) : Bool × Ld :=
  if m.id ≠ L.id ∨ m.frm ∉ L.con.nodes ∨ overL L = true then (false, L)
  else if m.kind = 4 then (true, turnL L 3 m.ins.cmd m.ins.att)
  else if m.kind = 7 ∧ lessB L.bal m.bal = true then (true, turnL { L with btn := m.bal } 4 ⟨0, 0, 0, [], [], 0, 0, 0⟩ ⟨0, []⟩)
  else if ¬ (m.kind = 1 ∧ L.ph = 0 ∨ m.kind = 3 ∧ L.ph = 1 ∨ m.kind = 6 ∧ L.ph = 2) ∨ m.bal ≠ L.bal ∨ heardL L m.frm = true then (false, L)
  else if m.kind = 1 then proposedL { L with vo := L.vo ++ [(m.frm, m.ins)], rw := false }
  else if m.kind = 3 then (if enoughL { L with vo := L.vo ++ [(m.frm, m.ins)], rw := false } = true then (true, turnL { L with vo := L.vo ++ [(m.frm, m.ins)], rw := false } 3 L.cmd L.att) else (false, { L with vo := L.vo ++ [(m.frm, m.ins)], rw := false }))
  else askedL { L with vo := L.vo ++ [(m.frm, m.ins)], rw := false }
end Go.DS

/-
  Walks: a lead hears.
-/
namespace Go.DS
open Go Go.Proofs
set_option maxRecDepth 100000
set_option linter.unusedVariables false
set_option linter.unusedSimpArgs false
variable {h : DHeap}
/-- The last part of Hear. -/
def cdR16 : Cd := (.seq (.seq (R [c0 113 (.mv (.s 5))] [0, 3, 113]) (.block 1 (.seq (R [cb 115 (.bin .eql .any (.s 113) (.c (ki .i64 0))), cb 114 (.tk (.s 115))] [0, 3, 113, 114]) (.ite (.s 114) (.seq (R [c0 116 (.mv (.s 0)), cb 117 (.call none (.c (kf 37)) [(.s 116)]), cb 4 (.mv (.s 117))] [3, 4]) (.ret)) (.seq (R [cb 119 (.bin .eql .any (.s 113) (.c (ki .i64 1))), cb 118 (.tk (.s 119))] [0, 3, 118]) (.ite (.s 118) (.seq (RD [cd (some 120) false none (.mv (.s 0)) false false [0], cd (some 121) true none (.call none (.c (kf 38)) [(.s 120)]) false false [120], cd (some 122) true none (.mv (.s 121)) false false [121], cd (some 123) false (some (122, true)) (.mv (.s 0)) false false [0], cd (some 124) false (some (122, true)) (.mv (.s 0)) false false [0], cd (some 125) false (some (122, true)) (.mov 0 (.s 124)) false false [124], cd (some 126) false (some (122, true)) (.mov 12 (.s 125)) false false [125], cd (some 127) false (some (122, true)) (.ld true 8 (.s 126)) false false [126], cd (some 128) false (some (122, true)) (.mv (.s 0)) false false [0], cd (some 129) false (some (122, true)) (.mov 0 (.s 128)) false false [128], cd (some 130) false (some (122, true)) (.mov 20 (.s 129)) false false [129], cd (some 131) false (some (122, true)) (.ld true 2 (.s 130)) false false [130], cd (some 132) true (some (122, true)) (.call none (.c (kf 34)) [(.s 123), (.c (ki .i64 3)), (.s 127), (.s 131)]) false false [123, 127, 131], cd (some 133) true none (.pick (.s 122) (.s 132) (.c (kb false))) false false [122, 132], cd (some 4) true none (.mv (.s 133)) false false [133]] [3, 4] []) (.ret)) (.skip))))))) (.seq (R [c0 134 (.mv (.s 0)), cb 135 (.call none (.c (kf 39)) [(.s 134)]), cb 4 (.mv (.s 135))] [3, 4]) (.ret)))
theorem HBl_set {L : Ld} {h : DHeap} (B : HBl h) (i : Nat) (l : List (Int × Ins)) : HBl (h.set i (.cells (cellsL { L with vo := l, rw := false } (.list true 16 (vots l))))) := by
  unfold HBl at *
  rw [List.length_set]
  rw [List.all_eq_true] at *
  intro o ho
  rcases List.mem_or_eq_of_mem_set ho with h1 | h1
  · exact B o h1
  · rw [h1]; exact below_L _ { L with vo := l, rw := false }
set_option maxHeartbeats 8000000 in
theorem hearL_lim {i n : Nat} {L : Ld} (H : AtL h i L) (O : LdOK n L) (hn : n ≤ 98) (B : HBl h) (m : Mes) (hm : MesOK m) :
    lim Try.prog cfg 13 [.ptr i 0, mesD m] h = some (vb (hearL L m).1, h.set i (.cells (cellsL (hearL L m).2 (votD (hearL L m).2)))) := by
  have hs : h.set i (.cells (cellsL L (votD L))) = h := set_same15 H.o
  have hv := O.vo
  have hd := hm.deps
  have hlt := H.lt
  have e1 := hasC_lim (h := h) L.con.epoch L.con.nodes m.frm (by have := O.nodes; omega)
  have e2 := overL_lim H
  have e3 := turn_lim H 3 m.ins.cmd m.ins.att (by omega)
  have e4 := lessB_lim (h := h) L.bal m.bal
  have e6 := phaseOf_lim (h := h) m.kind
  have e7 := heard_lim H (by omega) m.frm
  refine lim_fun fun13 rfl (by simp) rfl ?_
  delta cd13
  rw [← show cdR16 = (.seq (.seq (R [c0 113 (.mv (.s 5))] [0, 3, 113]) (.block 1 (.seq (R [cb 115 (.bin .eql .any (.s 113) (.c (ki .i64 0))), cb 114 (.tk (.s 115))] [0, 3, 113, 114]) (.ite (.s 114) (.seq (R [c0 116 (.mv (.s 0)), cb 117 (.call none (.c (kf 37)) [(.s 116)]), cb 4 (.mv (.s 117))] [3, 4]) (.ret)) (.seq (R [cb 119 (.bin .eql .any (.s 113) (.c (ki .i64 1))), cb 118 (.tk (.s 119))] [0, 3, 118]) (.ite (.s 118) (.seq (RD [cd (some 120) false none (.mv (.s 0)) false false [0], cd (some 121) true none (.call none (.c (kf 38)) [(.s 120)]) false false [120], cd (some 122) true none (.mv (.s 121)) false false [121], cd (some 123) false (some (122, true)) (.mv (.s 0)) false false [0], cd (some 124) false (some (122, true)) (.mv (.s 0)) false false [0], cd (some 125) false (some (122, true)) (.mov 0 (.s 124)) false false [124], cd (some 126) false (some (122, true)) (.mov 12 (.s 125)) false false [125], cd (some 127) false (some (122, true)) (.ld true 8 (.s 126)) false false [126], cd (some 128) false (some (122, true)) (.mv (.s 0)) false false [0], cd (some 129) false (some (122, true)) (.mov 0 (.s 128)) false false [128], cd (some 130) false (some (122, true)) (.mov 20 (.s 129)) false false [129], cd (some 131) false (some (122, true)) (.ld true 2 (.s 130)) false false [130], cd (some 132) true (some (122, true)) (.call none (.c (kf 34)) [(.s 123), (.c (ki .i64 3)), (.s 127), (.s 131)]) false false [123, 127, 131], cd (some 133) true none (.pick (.s 122) (.s 132) (.c (kb false))) false false [122, 132], cd (some 4) true none (.mv (.s 133)) false false [133]] [3, 4] []) (.ret)) (.skip))))))) (.seq (R [c0 134 (.mv (.s 0)), cb 135 (.call none (.c (kf 39)) [(.s 134)]), cb 4 (.mv (.s 135))] [3, 4]) (.ret))) from rfl]
  by_cases c1 : m.id = L.id
  case neg =>
    have ep : hearL L m = (false, L) := by unfold hearL; rw [if_pos (.inl c1)]
    rw [ep]
    simp -implicitDefEqProofs -dsimp only [go_sem, H.obj, eq_false c1]
    exact hs.symm
  by_cases c2 : m.frm ∈ L.con.nodes
  case neg =>
    have ep : hearL L m = (false, L) := by unfold hearL; rw [if_pos (.inr (.inl c2))]
    rw [ep]
    rw [decide_eq_false c2] at e1
    simp -implicitDefEqProofs -dsimp only [go_sem, H.obj, eq_true c1, e1]
    exact hs.symm
  rw [decide_eq_true c2] at e1
  cases c3 : overL L with
  | true =>
    have ep : hearL L m = (false, L) := by unfold hearL; rw [if_pos (.inr (.inr c3))]
    rw [ep]
    rw [c3] at e2
    simp -implicitDefEqProofs -dsimp only [go_sem, H.obj, eq_true c1, e1, e2]
    exact hs.symm
  | false =>
  rw [c3] at e2
  have nc : ¬ (m.id ≠ L.id ∨ m.frm ∉ L.con.nodes ∨ overL L = true) := by
    rintro (a | a | a)
    · exact a c1
    · exact a c2
    · rw [c3] at a; cases a
  by_cases c4 : m.kind = 4
  · have ep : hearL L m = (true, turnL L 3 m.ins.cmd m.ins.att) := by unfold hearL; rw [if_neg nc, if_pos c4]
    rw [ep]
    simp -implicitDefEqProofs -dsimp only [go_sem, H.obj, eq_true c1, e1, e2, eq_true c4, e3] <;> first | rfl | exact ⟨rfl, rfl⟩
  by_cases c5 : m.kind = 7 ∧ lessB L.bal m.bal = true
  · have ep : hearL L m = (true, turnL { L with btn := m.bal } 4 ⟨0, 0, 0, [], [], 0, 0, 0⟩ ⟨0, []⟩) := by unfold hearL; rw [if_neg nc, if_neg c4, if_pos c5]
    rw [ep]
    rw [c5.2] at e4
    have H2 : AtL (h.set i (.cells (cellsL { L with btn := m.bal } (votD L)))) i { L with btn := m.bal } := ⟨by rw [List.getElem?_set_self hlt], H.nil⟩
    have e5 : lim Try.prog cfg 34 [.ptr i 0, vi 4, .agg [vi 0, vi 0, vi 0, vs [], vs [], vi 0, vi 0, vi 0], .agg [vi 0, .list false 3 []]] (h.set i (.cells (cellsL { L with btn := m.bal } (votD L)))) = _ := turn_lim H2 4 ⟨0, 0, 0, [], [], 0, 0, 0⟩ ⟨0, []⟩ (by simp)
    rw [List.set_set] at e5
    simp -implicitDefEqProofs -dsimp only [go_sem, wp_RD, postC_path2, Nat.reduceDiv, H.obj, eq_true c1, e1, e2, eq_false c4, eq_true c5.1, e4, e5] <;> first | rfl | exact ⟨rfl, rfl⟩
  by_cases k0 : m.kind = 1 ∨ m.kind = 3 ∨ m.kind = 6
  case neg =>
    have ep : hearL L m = (false, L) := by unfold hearL; rw [if_neg nc, if_neg c4, if_neg c5, if_pos (.inl (by omega))]
    rw [ep]
    have n1 : ¬ m.kind = 1 := by omega
    have n3 : ¬ m.kind = 3 := by omega
    have n6 : ¬ m.kind = 6 := by omega
    have e6 : lim Try.prog cfg 35 [vi m.kind] h = some (.tup [vi 0, vb false], h) := by
      rw [e6]; simp [n1, n3, n6]
    by_cases n7 : m.kind = 7
    · have c5' : lessB L.bal m.bal = false := by
        cases hl : lessB L.bal m.bal with
        | false => rfl
        | true => exact absurd ⟨n7, hl⟩ c5
      rw [c5'] at e4
      simp -implicitDefEqProofs -dsimp only [go_sem, wp_RD, postC_path2, Nat.reduceDiv, H.obj, eq_true c1, e1, e2, eq_false c4, eq_true n7, e4, e6]
      exact hs.symm
    · simp -implicitDefEqProofs -dsimp only [go_sem, wp_RD, postC_path2, Nat.reduceDiv, H.obj, eq_true c1, e1, e2, eq_false c4, eq_false n7, e6]
      exact hs.symm
  rcases k0 with k0 | k0 | k0
  · -- 1
    have n7 : ¬ m.kind = 7 := by omega
    have e6 : lim Try.prog cfg 35 [vi m.kind] h = some (.tup [vi 0, vb true], h) := by
      rw [e6]; simp [k0]
    by_cases c6 : (0 : Int) = L.ph
    case neg =>
      have ep : hearL L m = (false, L) := by unfold hearL; rw [if_neg nc, if_neg c4, if_neg (by omega), if_pos (.inl (by omega))]
      rw [ep]
      simp -implicitDefEqProofs -dsimp only [go_sem, wp_RD, postC_path2, Nat.reduceDiv, H.obj, eq_true c1, e1, e2, eq_false c4, eq_false n7, e6, eq_false c6]
      exact hs.symm
    by_cases c7 : m.bal = L.bal
    case neg =>
      have ep : hearL L m = (false, L) := by unfold hearL; rw [if_neg nc, if_neg c4, if_neg (by omega), if_pos (.inr (.inl c7))]
      rw [ep]
      simp -implicitDefEqProofs -dsimp only [go_sem, wp_RD, postC_path2, Nat.reduceDiv, H.obj, eq_true c1, e1, e2, eq_false c4, eq_false n7, e6, eq_true c6, eq_false c7]
      exact hs.symm
    cases c8 : heardL L m.frm with
    | true =>
      have ep : hearL L m = (false, L) := by unfold hearL; rw [if_neg nc, if_neg c4, if_neg (by omega), if_pos (.inr (.inr c8))]
      rw [ep]
      rw [c8] at e7
      simp -implicitDefEqProofs -dsimp only [go_sem, wp_RD, postC_path2, Nat.reduceDiv, H.obj, eq_true c1, e1, e2, eq_false c4, eq_false n7, e6, eq_true c6, eq_true c7, e7]
      exact hs.symm
    | false =>
    rw [c8] at e7
    obtain ⟨l', hl'⟩ : ∃ l', l' = L.vo ++ [(m.frm, m.ins)] := ⟨_, rfl⟩
    have H' : AtL (h.set i (.cells (cellsL { L with vo := l', rw := false } (.list true 16 (vots l'))))) i { L with vo := l', rw := false } := ⟨by rw [List.getElem?_set_self hlt]; rfl, by simp⟩
    have O' : LdOK (n + 1) { L with vo := l', rw := false } := ⟨O.nodes, by rw [hl']; simp only [List.length_append, List.length_cons, List.length_nil]; omega, by have := O.att; dsimp only; omega, fun v hv => by
      rw [hl'] at hv
      rcases List.mem_append.1 hv with hv | hv
      · exact O.deps v hv
      · rw [List.mem_singleton.1 hv]; dsimp only; omega⟩
    have B' : HBl (h.set i (.cells (cellsL { L with vo := l', rw := false } (.list true 16 (vots l'))))) := HBl_set B _ _
    have sz : (L.vo.length + 1) * 177 ≤ maxLenD := by unfold maxLenD; omega
    have sz2 : 177 ≤ maxLenD := by unfold maxLenD; omega
    have e9 := own_lim (h := h) m.ins.att (by omega)
    have ho := H.obj
    have hset : ∀ (x y : DObj), (h.set i x).set i y = h.set i y := fun x y => List.set_set ..
    have hobj : ∀ (cs : List DV) (N : List DV → Prop), ObjP (h.set i (.cells cs)) i N = N cs := fun cs N => by simp [ObjP, hlt]
    have eA := proposed_lim H' O' (by omega)
    rw [List.set_set] at eA
    have ep : hearL L m = proposedL { L with vo := l', rw := false } := by rw [hl']; unfold hearL; rw [if_neg nc, if_neg c4, if_neg (by omega), if_neg (by rintro (a | a | a); exact a (by omega); exact a c7; rw [c8] at a; cases a), if_pos k0]
    rw [ep]
    clear ep
    cases hr : L.rw with
    | false =>
      have ev : vots L.vo ++ [[vi m.frm, vi m.ins.st, vi m.ins.pro.no, vi m.ins.pro.node, vi m.ins.vot.no, vi m.ins.vot.node, vi m.ins.cmd.client, vi m.ins.cmd.seq, vi m.ins.cmd.op, vs m.ins.cmd.path, vs m.ins.cmd.value, vi m.ins.cmd.version, vi m.ins.cmd.a, vi m.ins.cmd.b, vi m.ins.att.seq, .list false 3 (idr m.ins.att.deps)]] = vots l' := by rw [hl']; simp [vots]
      simp only [cellsL, votD, hr, Bool.false_eq_true, if_false] at ho
      simp -implicitDefEqProofs -dsimp (maxSteps := 500000) only [go_sem, ↓wp_RDc, postC_path2, Nat.reduceDiv, ho, hobj, hset, eq_true c1, e1, e2, eq_false c4, eq_false n7, e6, eq_true c6, eq_true c7, e7, e9, ev]
      refine ⟨sz, ?_⟩
      show WP _ _ _ _ _ (h.set i (.cells (cellsL { L with vo := l', rw := false } (.list true 16 (vots l'))))) _
      delta cdR16
      generalize proposedL { L with vo := l', rw := false } = res at *
      obtain ⟨f, M2⟩ := res
      cases f <;> simp -implicitDefEqProofs -dsimp only [go_sem, eA] <;> first | rfl | exact ⟨rfl, rfl⟩
    | true =>
      have hl2 : l' = [(m.frm, m.ins)] := by rw [hl', H.nil hr]; rfl
      subst hl2
      simp only [cellsL, votD, hr, if_true] at ho
      simp -implicitDefEqProofs -dsimp (maxSteps := 500000) only [go_sem, ↓wp_RDc, postC_path2, Nat.reduceDiv, ho, hobj, hset, eq_true c1, e1, e2, eq_false c4, eq_false n7, e6, eq_true c6, eq_true c7, e7, e9]
      refine ⟨sz2, ?_⟩
      show WP _ _ _ _ _ (h.set i (.cells (cellsL { L with vo := [(m.frm, m.ins)], rw := false } (.list true 16 (vots [(m.frm, m.ins)]))))) _
      delta cdR16
      generalize proposedL { L with vo := [(m.frm, m.ins)], rw := false } = res at *
      obtain ⟨f, M2⟩ := res
      cases f <;> simp -implicitDefEqProofs -dsimp only [go_sem, eA] <;> first | rfl | exact ⟨rfl, rfl⟩
  · -- 3
    have n7 : ¬ m.kind = 7 := by omega
    have e6 : lim Try.prog cfg 35 [vi m.kind] h = some (.tup [vi 1, vb true], h) := by
      rw [e6]; simp [k0]
    by_cases c6 : (1 : Int) = L.ph
    case neg =>
      have ep : hearL L m = (false, L) := by unfold hearL; rw [if_neg nc, if_neg c4, if_neg (by omega), if_pos (.inl (by omega))]
      rw [ep]
      simp -implicitDefEqProofs -dsimp only [go_sem, wp_RD, postC_path2, Nat.reduceDiv, H.obj, eq_true c1, e1, e2, eq_false c4, eq_false n7, e6, eq_false c6]
      exact hs.symm
    by_cases c7 : m.bal = L.bal
    case neg =>
      have ep : hearL L m = (false, L) := by unfold hearL; rw [if_neg nc, if_neg c4, if_neg (by omega), if_pos (.inr (.inl c7))]
      rw [ep]
      simp -implicitDefEqProofs -dsimp only [go_sem, wp_RD, postC_path2, Nat.reduceDiv, H.obj, eq_true c1, e1, e2, eq_false c4, eq_false n7, e6, eq_true c6, eq_false c7]
      exact hs.symm
    cases c8 : heardL L m.frm with
    | true =>
      have ep : hearL L m = (false, L) := by unfold hearL; rw [if_neg nc, if_neg c4, if_neg (by omega), if_pos (.inr (.inr c8))]
      rw [ep]
      rw [c8] at e7
      simp -implicitDefEqProofs -dsimp only [go_sem, wp_RD, postC_path2, Nat.reduceDiv, H.obj, eq_true c1, e1, e2, eq_false c4, eq_false n7, e6, eq_true c6, eq_true c7, e7]
      exact hs.symm
    | false =>
    rw [c8] at e7
    obtain ⟨l', hl'⟩ : ∃ l', l' = L.vo ++ [(m.frm, m.ins)] := ⟨_, rfl⟩
    have H' : AtL (h.set i (.cells (cellsL { L with vo := l', rw := false } (.list true 16 (vots l'))))) i { L with vo := l', rw := false } := ⟨by rw [List.getElem?_set_self hlt]; rfl, by simp⟩
    have O' : LdOK (n + 1) { L with vo := l', rw := false } := ⟨O.nodes, by rw [hl']; simp only [List.length_append, List.length_cons, List.length_nil]; omega, by have := O.att; dsimp only; omega, fun v hv => by
      rw [hl'] at hv
      rcases List.mem_append.1 hv with hv | hv
      · exact O.deps v hv
      · rw [List.mem_singleton.1 hv]; dsimp only; omega⟩
    have B' : HBl (h.set i (.cells (cellsL { L with vo := l', rw := false } (.list true 16 (vots l'))))) := HBl_set B _ _
    have sz : (L.vo.length + 1) * 177 ≤ maxLenD := by unfold maxLenD; omega
    have sz2 : 177 ≤ maxLenD := by unfold maxLenD; omega
    have e9 := own_lim (h := h) m.ins.att (by omega)
    have ho := H.obj
    have hset : ∀ (x y : DObj), (h.set i x).set i y = h.set i y := fun x y => List.set_set ..
    have hobj : ∀ (cs : List DV) (N : List DV → Prop), ObjP (h.set i (.cells cs)) i N = N cs := fun cs N => by simp [ObjP, hlt]
    have eA := enoughL_lim H' O'.nodes (by have := O'.vo; omega)
    have eB := turn_lim H' 3 L.cmd L.att (by have := O.att; omega)
    rw [List.set_set] at eB
    have ep : hearL L m = if enoughL { L with vo := l', rw := false } = true then (true, turnL { L with vo := l', rw := false } 3 L.cmd L.att) else (false, { L with vo := l', rw := false }) := by rw [hl']; unfold hearL; rw [if_neg nc, if_neg c4, if_neg (by omega), if_neg (by rintro (a | a | a); exact a (by omega); exact a c7; rw [c8] at a; cases a), if_neg (by omega), if_pos k0]
    rw [ep]
    clear ep
    cases hr : L.rw with
    | false =>
      have ev : vots L.vo ++ [[vi m.frm, vi m.ins.st, vi m.ins.pro.no, vi m.ins.pro.node, vi m.ins.vot.no, vi m.ins.vot.node, vi m.ins.cmd.client, vi m.ins.cmd.seq, vi m.ins.cmd.op, vs m.ins.cmd.path, vs m.ins.cmd.value, vi m.ins.cmd.version, vi m.ins.cmd.a, vi m.ins.cmd.b, vi m.ins.att.seq, .list false 3 (idr m.ins.att.deps)]] = vots l' := by rw [hl']; simp [vots]
      simp only [cellsL, votD, hr, Bool.false_eq_true, if_false] at ho
      simp -implicitDefEqProofs -dsimp (maxSteps := 500000) only [go_sem, ↓wp_RDc, postC_path2, Nat.reduceDiv, ho, hobj, hset, eq_true c1, e1, e2, eq_false c4, eq_false n7, e6, eq_true c6, eq_true c7, e7, e9, ev]
      refine ⟨sz, ?_⟩
      show WP _ _ _ _ _ (h.set i (.cells (cellsL { L with vo := l', rw := false } (.list true 16 (vots l'))))) _
      delta cdR16
      cases ce : enoughL { L with vo := l', rw := false } with
      | true =>
        rw [ce] at eA
        rw [if_pos rfl]
        simp -implicitDefEqProofs -dsimp only [go_sem, hobj, eA, eB] <;> first | rfl | exact ⟨rfl, rfl⟩
      | false =>
        rw [ce] at eA
        rw [if_neg (by simp)]
        simp -implicitDefEqProofs -dsimp only [go_sem, hobj, eA] <;> first | rfl | exact ⟨rfl, rfl⟩
    | true =>
      have hl2 : l' = [(m.frm, m.ins)] := by rw [hl', H.nil hr]; rfl
      subst hl2
      simp only [cellsL, votD, hr, if_true] at ho
      simp -implicitDefEqProofs -dsimp (maxSteps := 500000) only [go_sem, ↓wp_RDc, postC_path2, Nat.reduceDiv, ho, hobj, hset, eq_true c1, e1, e2, eq_false c4, eq_false n7, e6, eq_true c6, eq_true c7, e7, e9]
      refine ⟨sz2, ?_⟩
      show WP _ _ _ _ _ (h.set i (.cells (cellsL { L with vo := [(m.frm, m.ins)], rw := false } (.list true 16 (vots [(m.frm, m.ins)]))))) _
      delta cdR16
      cases ce : enoughL { L with vo := [(m.frm, m.ins)], rw := false } with
      | true =>
        rw [ce] at eA
        rw [if_pos rfl]
        simp -implicitDefEqProofs -dsimp only [go_sem, hobj, eA, eB] <;> first | rfl | exact ⟨rfl, rfl⟩
      | false =>
        rw [ce] at eA
        rw [if_neg (by simp)]
        simp -implicitDefEqProofs -dsimp only [go_sem, hobj, eA] <;> first | rfl | exact ⟨rfl, rfl⟩
  · -- 6
    have n7 : ¬ m.kind = 7 := by omega
    have e6 : lim Try.prog cfg 35 [vi m.kind] h = some (.tup [vi 2, vb true], h) := by
      rw [e6]; simp [k0]
    by_cases c6 : (2 : Int) = L.ph
    case neg =>
      have ep : hearL L m = (false, L) := by unfold hearL; rw [if_neg nc, if_neg c4, if_neg (by omega), if_pos (.inl (by omega))]
      rw [ep]
      simp -implicitDefEqProofs -dsimp only [go_sem, wp_RD, postC_path2, Nat.reduceDiv, H.obj, eq_true c1, e1, e2, eq_false c4, eq_false n7, e6, eq_false c6]
      exact hs.symm
    by_cases c7 : m.bal = L.bal
    case neg =>
      have ep : hearL L m = (false, L) := by unfold hearL; rw [if_neg nc, if_neg c4, if_neg (by omega), if_pos (.inr (.inl c7))]
      rw [ep]
      simp -implicitDefEqProofs -dsimp only [go_sem, wp_RD, postC_path2, Nat.reduceDiv, H.obj, eq_true c1, e1, e2, eq_false c4, eq_false n7, e6, eq_true c6, eq_false c7]
      exact hs.symm
    cases c8 : heardL L m.frm with
    | true =>
      have ep : hearL L m = (false, L) := by unfold hearL; rw [if_neg nc, if_neg c4, if_neg (by omega), if_pos (.inr (.inr c8))]
      rw [ep]
      rw [c8] at e7
      simp -implicitDefEqProofs -dsimp only [go_sem, wp_RD, postC_path2, Nat.reduceDiv, H.obj, eq_true c1, e1, e2, eq_false c4, eq_false n7, e6, eq_true c6, eq_true c7, e7]
      exact hs.symm
    | false =>
    rw [c8] at e7
    obtain ⟨l', hl'⟩ : ∃ l', l' = L.vo ++ [(m.frm, m.ins)] := ⟨_, rfl⟩
    have H' : AtL (h.set i (.cells (cellsL { L with vo := l', rw := false } (.list true 16 (vots l'))))) i { L with vo := l', rw := false } := ⟨by rw [List.getElem?_set_self hlt]; rfl, by simp⟩
    have O' : LdOK (n + 1) { L with vo := l', rw := false } := ⟨O.nodes, by rw [hl']; simp only [List.length_append, List.length_cons, List.length_nil]; omega, by have := O.att; dsimp only; omega, fun v hv => by
      rw [hl'] at hv
      rcases List.mem_append.1 hv with hv | hv
      · exact O.deps v hv
      · rw [List.mem_singleton.1 hv]; dsimp only; omega⟩
    have B' : HBl (h.set i (.cells (cellsL { L with vo := l', rw := false } (.list true 16 (vots l'))))) := HBl_set B _ _
    have sz : (L.vo.length + 1) * 177 ≤ maxLenD := by unfold maxLenD; omega
    have sz2 : 177 ≤ maxLenD := by unfold maxLenD; omega
    have e9 := own_lim (h := h) m.ins.att (by omega)
    have ho := H.obj
    have hset : ∀ (x y : DObj), (h.set i x).set i y = h.set i y := fun x y => List.set_set ..
    have hobj : ∀ (cs : List DV) (N : List DV → Prop), ObjP (h.set i (.cells cs)) i N = N cs := fun cs N => by simp [ObjP, hlt]
    have eA := asked_lim H' O' (by omega) B'
    rw [List.set_set] at eA
    have ep : hearL L m = askedL { L with vo := l', rw := false } := by rw [hl']; unfold hearL; rw [if_neg nc, if_neg c4, if_neg (by omega), if_neg (by rintro (a | a | a); exact a (by omega); exact a c7; rw [c8] at a; cases a), if_neg (by omega), if_neg (by omega)]
    rw [ep]
    clear ep
    cases hr : L.rw with
    | false =>
      have ev : vots L.vo ++ [[vi m.frm, vi m.ins.st, vi m.ins.pro.no, vi m.ins.pro.node, vi m.ins.vot.no, vi m.ins.vot.node, vi m.ins.cmd.client, vi m.ins.cmd.seq, vi m.ins.cmd.op, vs m.ins.cmd.path, vs m.ins.cmd.value, vi m.ins.cmd.version, vi m.ins.cmd.a, vi m.ins.cmd.b, vi m.ins.att.seq, .list false 3 (idr m.ins.att.deps)]] = vots l' := by rw [hl']; simp [vots]
      simp only [cellsL, votD, hr, Bool.false_eq_true, if_false] at ho
      simp -implicitDefEqProofs -dsimp (maxSteps := 500000) only [go_sem, ↓wp_RDc, postC_path2, Nat.reduceDiv, ho, hobj, hset, eq_true c1, e1, e2, eq_false c4, eq_false n7, e6, eq_true c6, eq_true c7, e7, e9, ev]
      refine ⟨sz, ?_⟩
      show WP _ _ _ _ _ (h.set i (.cells (cellsL { L with vo := l', rw := false } (.list true 16 (vots l'))))) _
      delta cdR16
      generalize askedL { L with vo := l', rw := false } = res at *
      obtain ⟨f, M2⟩ := res
      cases f <;> simp -implicitDefEqProofs -dsimp only [go_sem, eA] <;> first | rfl | exact ⟨rfl, rfl⟩
    | true =>
      have hl2 : l' = [(m.frm, m.ins)] := by rw [hl', H.nil hr]; rfl
      subst hl2
      simp only [cellsL, votD, hr, if_true] at ho
      simp -implicitDefEqProofs -dsimp (maxSteps := 500000) only [go_sem, ↓wp_RDc, postC_path2, Nat.reduceDiv, ho, hobj, hset, eq_true c1, e1, e2, eq_false c4, eq_false n7, e6, eq_true c6, eq_true c7, e7, e9]
      refine ⟨sz2, ?_⟩
      show WP _ _ _ _ _ (h.set i (.cells (cellsL { L with vo := [(m.frm, m.ins)], rw := false } (.list true 16 (vots [(m.frm, m.ins)]))))) _
      delta cdR16
      generalize askedL { L with vo := [(m.frm, m.ins)], rw := false } = res at *
      obtain ⟨f, M2⟩ := res
      cases f <;> simp -implicitDefEqProofs -dsimp only [go_sem, eA] <;> first | rfl | exact ⟨rfl, rfl⟩
end Go.DS

/-
  Walks: a lead goes on, and asks.
-/
namespace Go.DS
open Go Go.Proofs
set_option maxRecDepth 100000
set_option linter.unusedVariables false
set_option linter.unusedSimpArgs false
variable {h : DHeap}
def slowL (L : Ld) : Bool × Ld := if L.ph = 0 ∧ L.first = true ∧ enoughL L = true then (true, turnL L 1 L.cmd (allA (attrsL L))) else (false, L)
set_option maxHeartbeats 4000000 in
theorem slow_lim {i n : Nat} {L : Ld} (H : AtL h i L) (O : LdOK n L) (hn : n ≤ 100) : lim Try.prog cfg 15 [.ptr i 0] h = some (vb (slowL L).1, h.set i (.cells (cellsL (slowL L).2 (votD (slowL L).2)))) := by
  have hs : h.set i (.cells (cellsL L (votD L))) = h := set_same15 H.o
  have hv := O.vo
  have e1 := attrs_lim H (by omega)
  have hd : ∀ a ∈ attrsL L, a.deps.length ≤ 1000 := fun a ha => by
    obtain ⟨v, hv, rfl⟩ := List.mem_map.1 ha
    have := O.deps v hv
    omega
  have hal : (attrsL L).length ≤ 500 := by unfold attrsL; rw [List.length_map]; omega
  have e5 := enoughL_lim H O.nodes (by omega)
  have e6 := fun own => allA_lim (h := h) own (attrsL L) hal hd
  have hal2 : (allA (attrsL L)).deps.length ≤ 1048576 := by
    have h1 := allA_len (attrsL L) 1000 hd
    have h2 : (attrsL L).length * 1000 ≤ 500 * 1000 := Nat.mul_le_mul_right _ hal
    omega
  have e7 := turn_lim H 1 L.cmd (allA (attrsL L)) hal2
  refine lim_fun fun15 rfl (by simp) rfl ?_
  delta cd15
  by_cases c1 : L.ph = 0
  case neg =>
    have ep : slowL L = (false, L) := by unfold slowL; rw [if_neg (fun q => c1 q.1)]
    rw [ep]
    simp -implicitDefEqProofs -dsimp only [go_sem, H.obj, eq_false c1]
    exact hs.symm
  cases c2 : L.first with
  | false =>
    have ep : slowL L = (false, L) := by unfold slowL; rw [if_neg (fun q => by rw [c2] at q; cases q.2.1)]
    rw [ep]
    simp -implicitDefEqProofs -dsimp only [go_sem, H.obj, eq_true c1, c2]
    exact hs.symm
  | true =>
  cases c3 : enoughL L with
  | false =>
    rw [c3] at e5
    have ep : slowL L = (false, L) := by unfold slowL; rw [if_neg (fun q => by rw [c3] at q; cases q.2.2)]
    rw [ep]
    simp -implicitDefEqProofs -dsimp only [go_sem, H.obj, eq_true c1, c2, e5]
    exact hs.symm
  | true =>
    rw [c3] at e5
    have ep : slowL L = (true, turnL L 1 L.cmd (allA (attrsL L))) := by unfold slowL; rw [if_pos ⟨c1, c2, c3⟩]
    rw [ep]
    simp -implicitDefEqProofs -dsimp only [go_sem, H.obj, eq_true c1, c2, e1, e5, e6, e7] <;> first | rfl | exact ⟨rfl, rfl⟩
end Go.DS

/-
  Walks: what a lead asks.
-/
namespace Go.DS
open Go Go.Proofs
set_option maxRecDepth 100000
set_option linter.unusedVariables false
set_option linter.unusedSimpArgs false
variable {h : DHeap}
def askL (L : Ld) : Mes :=
  if L.ph = 0 then ⟨0, L.node, 0, L.id, L.bal, ⟨0, ⟨0, 0⟩, ⟨0, 0⟩, L.cmd, L.att⟩, ⟨⟨0, []⟩, [], []⟩⟩
  else if L.ph = 1 then ⟨2, L.node, 0, L.id, L.bal, ⟨0, ⟨0, 0⟩, ⟨0, 0⟩, L.cmd, L.att⟩, ⟨⟨0, []⟩, [], []⟩⟩
  else if L.ph = 2 then ⟨5, L.node, 0, L.id, L.bal, ⟨0, ⟨0, 0⟩, ⟨0, 0⟩, ⟨0, 0, 0, [], [], 0, 0, 0⟩, ⟨0, []⟩⟩, ⟨⟨0, []⟩, [], []⟩⟩
  else if L.ph = 3 then ⟨4, L.node, 0, L.id, L.bal, ⟨3, ⟨0, 0⟩, L.bal, L.cmd, L.att⟩, ⟨⟨0, []⟩, [], []⟩⟩
  else ⟨8, L.node, 0, ⟨0, 0, 0⟩, ⟨0, 0⟩, ⟨0, ⟨0, 0⟩, ⟨0, 0⟩, ⟨0, 0, 0, [], [], 0, 0, 0⟩, ⟨0, []⟩⟩, ⟨⟨0, []⟩, [], []⟩⟩
set_option maxHeartbeats 4000000 in
theorem ask_lim {i : Nat} {L : Ld} (H : AtL h i L) (ha : L.att.deps.length ≤ 1048576) : lim Try.prog cfg 19 [.ptr i 0] h = some (mesD (askL L), h) := by
  have e1 := own_lim (h := h) L.att ha
  refine lim_fun fun19 rfl (by simp) rfl ?_
  delta cd19
  unfold askL
  by_cases c0 : L.ph = 0
  · rw [if_pos c0]
    simp -implicitDefEqProofs -dsimp only [go_sem, H.obj, eq_true c0, e1] <;> rfl
  rw [if_neg c0]
  by_cases c1 : L.ph = 1
  · rw [if_pos c1]
    simp -implicitDefEqProofs -dsimp only [go_sem, H.obj, eq_false c0, eq_true c1, e1] <;> rfl
  rw [if_neg c1]
  by_cases c2 : L.ph = 2
  · rw [if_pos c2]
    simp -implicitDefEqProofs -dsimp only [go_sem, H.obj, eq_false c0, eq_false c1, eq_true c2, e1] <;> rfl
  rw [if_neg c2]
  by_cases c3 : L.ph = 3
  · rw [if_pos c3]
    simp -implicitDefEqProofs -dsimp only [go_sem, ↓wp_RDc, postC_path2, Nat.reduceDiv, H.obj, eq_false c0, eq_false c1, eq_false c2, eq_true c3, e1] <;> rfl
  rw [if_neg c3]
  simp -implicitDefEqProofs -dsimp only [go_sem, H.obj, eq_false c0, eq_false c1, eq_false c2, eq_false c3, e1] <;> rfl
end Go.DS

/-
  Leads: what hearing comes to, plain.
-/
namespace Go.DS
open Go
set_option linter.unusedVariables false
set_option linter.unusedSimpArgs false
def addL (L : Ld) (m : Mes) : Ld := { L with vo := L.vo ++ [(m.frm, m.ins)], rw := false }
/-- Where a turn goes to. -/
structure TurnP (L : Ld) (m : Mes) (p : Int) (c : Cmd) (a : Att) : Prop where
  ne : p ≠ L.ph
  to : p = 0 ∨ p = 1 ∨ p = 3
  c : L.ph ≠ 2 → c = L.cmd ∧ p ≠ 0
  a : a = L.att ∨ a = allA (attrsL (addL L m)) ∨ a = (bestL (addL L m).vo).1.att ∨ a = ⟨0, []⟩
/-- What hearing comes to. -/
inductive HearP (L : Ld) (m : Mes) : Bool × Ld → Prop
  | no : HearP L m (false, L)
  | told : m.frm ∈ L.con.nodes → overL L = false → m.kind = 4 → HearP L m (true, turnL L 3 m.ins.cmd m.ins.att)
  | beat : m.frm ∈ L.con.nodes → overL L = false → m.kind = 7 → HearP L m (true, turnL { L with btn := m.bal } 4 ⟨0, 0, 0, [], [], 0, 0, 0⟩ ⟨0, []⟩)
  | add : m.frm ∈ L.con.nodes → overL L = false → heardL L m.frm = false → (L.first = false ∨ L.ph ≠ 0 → enoughL (addL L m) = false) → HearP L m (false, addL L m)
  | turn (p : Int) (c : Cmd) (a : Att) : m.frm ∈ L.con.nodes → overL L = false → heardL L m.frm = false → TurnP L m p c a → HearP L m (true, turnL (addL L m) p c a)
theorem prop_hear {L : Ld} {m : Mes} (h1 : m.frm ∈ L.con.nodes) (h2 : overL L = false) (h3 : heardL L m.frm = false) (h4 : L.ph = 0) : HearP L m (proposedL (addL L m)) := by
  unfold proposedL
  split
  · rename_i hf
    have hf1 : L.first = true := by simp only [Bool.and_eq_true] at hf; exact hf.1
    split
    · exact .turn 3 L.cmd L.att h1 h2 h3 ⟨by omega, by omega, fun _ => ⟨rfl, by omega⟩, .inl rfl⟩
    · exact .add h1 h2 h3 fun h => by rcases h with h | h <;> simp_all
  · split
    · exact .turn 1 L.cmd _ h1 h2 h3 ⟨by omega, by omega, fun _ => ⟨rfl, by omega⟩, .inr (.inl rfl)⟩
    · rename_i he
      exact .add h1 h2 h3 fun h => by simpa using he
theorem asked_hear {L : Ld} {m : Mes} (h1 : m.frm ∈ L.con.nodes) (h2 : overL L = false) (h3 : heardL L m.frm = false) (h4 : L.ph = 2) : HearP L m (askedL (addL L m)) := by
  unfold askedL
  split
  · rename_i he
    exact .add h1 h2 h3 fun h => by simpa using he
  · split
    · exact .turn 1 _ _ h1 h2 h3 ⟨by omega, by omega, fun h => absurd h4 h, .inr (.inr (.inr rfl))⟩
    · split
      · exact .turn 1 _ _ h1 h2 h3 ⟨by omega, by omega, fun h => absurd h4 h, .inr (.inr (.inl rfl))⟩
      · split
        · exact .turn 1 _ _ h1 h2 h3 ⟨by omega, by omega, fun h => absurd h4 h, .inr (.inr (.inl rfl))⟩
        · exact .turn 0 _ _ h1 h2 h3 ⟨by omega, by omega, fun h => absurd h4 h, .inr (.inr (.inr rfl))⟩
theorem hear_P (L : Ld) (m : Mes) : HearP L m (hearL L m) := by
  unfold hearL
  split
  · exact .no
  rename_i h0
  have h1 : m.frm ∈ L.con.nodes := Decidable.byContradiction fun h => h0 (.inr (.inl h))
  have h2 : overL L = false := by
    cases h : overL L with
    | false => rfl
    | true => exact absurd (.inr (.inr h)) h0
  split
  · rename_i hk; exact .told h1 h2 hk
  split
  · rename_i hk; exact .beat h1 h2 hk.1
  split
  · exact .no
  rename_i h5
  have h3 : heardL L m.frm = false := by
    cases h : heardL L m.frm with
    | false => rfl
    | true => exact absurd (.inr (.inr h)) h5
  have h6 : m.kind = 1 ∧ L.ph = 0 ∨ m.kind = 3 ∧ L.ph = 1 ∨ m.kind = 6 ∧ L.ph = 2 := Decidable.byContradiction fun h => h5 (.inl h)
  split
  · exact prop_hear h1 h2 h3 (by omega)
  split
  · have hp : L.ph = 1 := by omega
    split
    · exact .turn 3 L.cmd L.att h1 h2 h3 ⟨by omega, by omega, fun _ => ⟨rfl, by omega⟩, .inl rfl⟩
    · rename_i he
      exact .add h1 h2 h3 fun h => by
        cases hc : enoughL (addL L m) with
        | false => rfl
        | true => exact absurd hc he
  · exact asked_hear h1 h2 h3 (by omega)
/-- What stays. -/
theorem hear_keeps (L : Ld) (m : Mes) : (hearL L m).2.con = L.con ∧ (hearL L m).2.node = L.node ∧ (hearL L m).2.id = L.id ∧ (hearL L m).2.bal = L.bal := by
  have h := hear_P L m
  generalize hearL L m = r at h
  cases h <;> exact ⟨rfl, rfl, rfl, rfl⟩
theorem hear_nil {L : Ld} (h : L.rw = true → L.vo = []) (m : Mes) : (hearL L m).2.rw = true → (hearL L m).2.vo = [] := by
  have hp := hear_P L m
  generalize hearL L m = r at hp
  cases hp
  · exact h
  · intro _; rfl
  · intro _; rfl
  · intro h; cases h
  · intro _; rfl
theorem add_ok {n : Nat} {L : Ld} (O : LdOK n L) {m : Mes} (hm : MesOK m) : LdOK (n + 1) (addL L m) := by
  have h1 := O.vo
  have h2 := O.att
  refine ⟨O.nodes, ?_, ?_, ?_⟩
  · show (L.vo ++ [(m.frm, m.ins)]).length ≤ n + 1
    rw [List.length_append]; simp; omega
  · show L.att.deps.length ≤ _
    omega
  · intro v hv
    rcases List.mem_append.1 hv with hv | hv
    · exact O.deps v hv
    · simp only [List.mem_singleton] at hv
      subst hv
      have := hm.deps
      show m.ins.att.deps.length ≤ 61
      omega
theorem hear_okL {n : Nat} {L : Ld} (O : LdOK n L) {m : Mes} (hm : MesOK m) : LdOK (n + 1) (hearL L m).2 := by
  have hp := hear_P L m
  generalize hearL L m = r at hp
  have h1 := O.vo
  have h2 := O.att
  have A := add_ok O hm
  cases hp with
  | no => exact ⟨O.nodes, Nat.le_succ_of_le h1, Nat.le_trans h2 (by omega), O.deps⟩
  | told _ _ _ => exact ⟨O.nodes, Nat.zero_le _, by have := hm.deps; show m.ins.att.deps.length ≤ _; omega, fun v hv => by cases hv⟩
  | beat _ _ _ => exact ⟨O.nodes, Nat.zero_le _, Nat.zero_le _, fun v hv => by cases hv⟩
  | add _ _ _ _ => exact A
  | turn p c a _ _ _ hT =>
    refine ⟨O.nodes, Nat.zero_le _, ?_, fun v hv => by cases hv⟩
    show a.deps.length ≤ 61 * (n + 1) + 100
    rcases hT.a with rfl | rfl | rfl | rfl
    · omega
    · have h3 := allA_len (attrsL (addL L m)) 61 fun a ha => by
        obtain ⟨v, hv, rfl⟩ := List.mem_map.1 ha
        exact A.deps v hv
      have h4 : (attrsL (addL L m)).length ≤ n + 1 := by unfold attrsL; rw [List.length_map]; exact A.vo
      have h5 := Nat.mul_le_mul_right 61 h4
      omega
    · have := best_small A; omega
    · exact Nat.zero_le _
theorem newL_ok (c : Con) (node : Int) (id : Id) (cmd : Cmd) (a : Att) (h1 : c.nodes.length ≤ 1048576) (h2 : a.deps.length ≤ 100) : LdOK 0 (newL c node id cmd a) := ⟨h1, Nat.zero_le _, by show a.deps.length ≤ _; omega, fun v hv => by cases hv⟩
theorem takeL_ok (c : Con) (node : Int) (id : Id) (b : Bal) (h1 : c.nodes.length ≤ 1048576) : LdOK 0 (takeL c node id b) := ⟨h1, Nat.zero_le _, Nat.zero_le _, fun v hv => by cases hv⟩
theorem LdOK.mono {n n' : Nat} {L : Ld} (O : LdOK n L) (h : n ≤ n') : LdOK n' L := ⟨O.nodes, Nat.le_trans O.vo h, Nat.le_trans O.att (by omega), O.deps⟩
def hearsL (L : Ld) (l : List Mes) : Ld := l.foldl (fun L m => (hearL L m).2) L
theorem hearsL_snoc (L : Ld) (l : List Mes) (m : Mes) : hearsL L (l ++ [m]) = (hearL (hearsL L l) m).2 := by simp [hearsL]
theorem hearsL_keeps (L : Ld) (l : List Mes) : (hearsL L l).con = L.con ∧ (hearsL L l).node = L.node ∧ (hearsL L l).id = L.id ∧ (hearsL L l).bal = L.bal := by
  induction l generalizing L with
  | nil => exact ⟨rfl, rfl, rfl, rfl⟩
  | cons m l ih =>
    obtain ⟨a1, a2, a3, a4⟩ := ih (hearL L m).2
    obtain ⟨b1, b2, b3, b4⟩ := hear_keeps L m
    exact ⟨a1.trans b1, a2.trans b2, a3.trans b3, a4.trans b4⟩
theorem hearsL_nil {L : Ld} (h : L.rw = true → L.vo = []) (l : List Mes) : (hearsL L l).rw = true → (hearsL L l).vo = [] := by
  induction l generalizing L with
  | nil => exact h
  | cons m l ih => exact ih (hear_nil h m)
theorem hearsL_ok {n : Nat} {L : Ld} (O : LdOK n L) (l : List Mes) (hm : ∀ m ∈ l, MesOK m) : LdOK (n + l.length) (hearsL L l) := by
  induction l generalizing L n with
  | nil => exact O
  | cons m l ih =>
    have := ih (hear_okL O (hm m List.mem_cons_self)) fun x hx => hm x (List.mem_cons_of_mem _ hx)
    rw [List.length_cons]
    exact this.mono (by omega)
/-! LeadBeaten -/
theorem hear_no (L : Ld) (m : Mes) (h1 : m.id = L.id) (h2 : overL L = false) (h3 : m.kind = 7) : hearL L m = if decide (m.frm ∈ L.con.nodes) && lessB L.bal m.bal then (true, turnL { L with btn := m.bal } 4 ⟨0, 0, 0, [], [], 0, 0, 0⟩ ⟨0, []⟩) else (false, L) := by
  unfold hearL
  by_cases hn : m.frm ∈ L.con.nodes
  · rw [if_neg (by simp [h1, hn, h2]), if_neg (by omega)]
    cases hl : lessB L.bal m.bal with
    | true => rw [if_pos ⟨h3, rfl⟩]; simp [hn]
    | false => rw [if_neg (by simp), if_pos (.inl (by omega))]; simp
  · rw [if_pos (.inr (.inl hn))]; simp [hn]
theorem next_less {a b : Bal} (h1 : a.no ≤ 1099511627776) (h2 : b.no ≤ 1099511627776) (h3 : -1000 ≤ a.no) (h4 : -1000 ≤ b.no) (n : Int) : lessB a (nextB (mostB a b) n) = true ∧ lessB b (nextB (mostB a b) n) = true := by
  have hw : ∀ k : Int, -1000 ≤ k → k ≤ 1099511627776 → IntKind.wrap .i64 (k + 1) = k + 1 := fun k h1 h2 => wrap64 (by omega) (by omega)
  unfold nextB mostB
  cases hc : decide (a ≠ b) && lessB a b with
  | true =>
    simp only [Bool.and_eq_true] at hc
    have := lessB_iff.1 hc.2
    rw [if_pos rfl, lessB_iff, lessB_iff]
    dsimp only
    rw [hw _ h4 h2]
    omega
  | false =>
    rw [if_neg (by simp), lessB_iff, lessB_iff]
    dsimp only
    rw [hw _ h3 h1]
    have hb : ¬ a.no < b.no := by
      intro hlt
      have h5 : lessB a b = true := lessB_iff.2 (.inl hlt)
      have h6 : a ≠ b := by rintro rfl; omega
      simp [h5, h6] at hc
    omega
/-! LeadCommand -/
/-- What a first lead holds. -/
structure ComP (L : Ld) (cmd : Cmd) : Prop where
  c : L.ph = 4 ∨ L.cmd = cmd
  p : L.ph ≠ 2
theorem hear_com {L : Ld} {cmd : Cmd} (H : ComP L cmd) {m : Mes} (hk : m.kind ≠ 4) : ComP (hearL L m).2 cmd := by
  have hp := hear_P L m
  generalize hearL L m = r at hp
  cases hp with
  | no => exact H
  | told _ _ h => exact absurd h hk
  | beat _ _ _ => exact ⟨.inl rfl, by show (4 : Int) ≠ 2; omega⟩
  | add _ _ _ _ => exact ⟨H.c, H.p⟩
  | turn p c a _ h2 _ hT =>
    obtain ⟨e, hp⟩ := hT.c H.p
    have h4 : L.ph ≠ 4 := by intro h; simp [overL, h] at h2
    refine ⟨.inr ?_, ?_⟩
    · show c = cmd
      rw [e]
      exact H.c.resolve_left h4
    · show p ≠ 2
      have := hT.to; omega
theorem hearsL_com {L : Ld} {cmd : Cmd} (H : ComP L cmd) (l : List Mes) (hk : ∀ m ∈ l, m.kind ≠ 4) : ComP (hearsL L l) cmd := by
  induction l generalizing L with
  | nil => exact H
  | cons m l ih => exact ih (hear_com H (hk m List.mem_cons_self)) fun x hx => hk x (List.mem_cons_of_mem _ hx)
/-! LeadTells -/
structure TelP (L : Ld) : Prop where
  f : L.first = false
  e : overL L = false → L.con.nodes ≠ [] → enoughL L = false
theorem quorum_pos {n : Nat} (h : n ≠ 0) : 1 ≤ quorumP n ∧ quorumP n ≤ n := by
  unfold quorumP
  rw [if_neg (by omega)]
  omega
theorem enough_nil {L : Ld} (h : L.con.nodes ≠ []) (h2 : L.vo = []) : enoughL L = false := by
  unfold enoughL hereP
  have := quorum_pos (n := L.con.nodes.length) (by rwa [Ne, List.length_eq_zero_iff])
  simp only [h2, List.map_nil, List.not_mem_nil, decide_false]
  have e : (L.con.nodes.filter fun _ => false) = [] := by simp
  rw [e]
  exact decide_eq_false (by simp; omega)
theorem hear_tel {L : Ld} (H : TelP L) (m : Mes) : TelP (hearL L m).2 := by
  have hp := hear_P L m
  generalize hearL L m = r at hp
  cases hp with
  | no => exact H
  | told _ _ _ => exact ⟨rfl, fun h => by cases h⟩
  | beat _ _ _ => exact ⟨rfl, fun h => by cases h⟩
  | add _ _ _ h => exact ⟨H.f, fun _ _ => h (.inl H.f)⟩
  | turn p c a _ _ _ _ => exact ⟨rfl, fun _ hn => enough_nil hn rfl⟩
theorem hearsL_tel {L : Ld} (H : TelP L) (l : List Mes) : TelP (hearsL L l) := by
  induction l generalizing L with
  | nil => exact H
  | cons m l ih => exact ih (hear_tel H m)
theorem hear_turned (L : Ld) (m : Mes) : (hearL L m).1 = decide ((hearL L m).2.ph ≠ L.ph) := by
  have hp := hear_P L m
  generalize hearL L m = r at hp
  have h3 : overL L = false → L.ph ≠ 3 ∧ L.ph ≠ 4 := fun h => ⟨fun e => by simp [overL, e] at h, fun e => by simp [overL, e] at h⟩
  cases hp with
  | no => simp
  | told _ h _ => have := h3 h; show true = decide ((3 : Int) ≠ L.ph); rw [decide_eq_true (by omega)]
  | beat _ h _ => have := h3 h; show true = decide ((4 : Int) ≠ L.ph); rw [decide_eq_true (by omega)]
  | add _ _ _ _ => show false = decide (L.ph ≠ L.ph); simp
  | turn p c a _ _ _ hT => show true = decide (p ≠ L.ph); rw [decide_eq_true hT.ne]
theorem wait_mono (L : Ld) (m : Mes) (h : (hearL L m).1 = false) : (waitL (hearL L m).2).length ≤ (waitL L).length := by
  have hp := hear_P L m
  generalize hearL L m = r at hp h
  cases hp with
  | no => exact Nat.le_refl _
  | told _ _ _ => cases h
  | beat _ _ _ => cases h
  | turn p c a _ _ _ _ => cases h
  | add _ h2 _ _ =>
    show (waitL (addL L m)).length ≤ _
    unfold waitL
    rw [h2, show overL (addL L m) = false from h2]
    rw [if_neg (by simp), if_neg (by simp)]
    refine List.Sublist.length_le (List.Sublist.trans ?_ (List.filter_sublist (l := L.con.nodes.filter fun n => !heardL L n) (p := fun n => !heardL (addL L m) n)))
    rw [List.filter_filter]
    have : (fun a => !heardL (addL L m) a && !heardL L a) = fun n => !heardL (addL L m) n := by
      funext n
      cases h : heardL (addL L m) n with
      | true => simp
      | false =>
        have : heardL L n = false := by
          unfold heardL at h ⊢
          unfold addL at h
          rw [List.any_append] at h
          simp only [Bool.or_eq_false_iff] at h
          exact h.1
        simp [this]
    rw [this]
    exact List.Sublist.refl _
theorem wait_in (L : Ld) : ∀ n ∈ waitL L, n ∈ L.con.nodes := by
  intro n hn
  unfold waitL at hn
  split at hn
  · cases hn
  · exact (List.mem_filter.1 hn).1
theorem wait_over {L : Ld} (h : overL L = true) : waitL L = [] := by unfold waitL; rw [if_pos h]
theorem hear_over {L : Ld} (h : overL L = true) (m : Mes) : hearL L m = (false, L) := by
  unfold hearL; rw [if_pos (.inr (.inr h))]
theorem here_heard (L : Ld) : hereP L.con.nodes (L.vo.map (·.1)) = (L.con.nodes.filter fun n => heardL L n).length := by
  unfold hereP heardL
  congr 1
  refine List.filter_congr fun x _ => ?_
  rw [Bool.eq_iff_iff]
  simp [List.any_eq_true]
theorem wait_pos {L : Ld} (H : TelP L) (h : overL L = false) (hn : L.con.nodes ≠ []) : 0 < (waitL L).length := by
  have he := H.e h hn
  unfold enoughL at he
  have he := of_decide_eq_false he
  rw [here_heard] at he
  have hq := quorum_pos (n := L.con.nodes.length) (by rwa [Ne, List.length_eq_zero_iff])
  unfold waitL
  rw [h, if_neg (by simp)]
  have hs : ∀ l : List Int, l.length = (l.filter fun n => heardL L n).length + (l.filter fun n => !heardL L n).length := by
    intro l
    induction l with
    | nil => rfl
    | cons x l ih => cases hx : heardL L x <;> simp [hx, ih] <;> omega
  have := hs L.con.nodes
  omega
theorem count_wait {L : Ld} (h : overL L = false) : hereP L.con.nodes (waitL L) = (waitL L).length := by
  unfold hereP
  conv => rhs; unfold waitL
  rw [h, if_neg (by simp)]
  congr 1
  refine List.filter_congr fun x hx => ?_
  rw [Bool.eq_iff_iff]
  unfold waitL
  rw [h, if_neg (by simp)]
  simp [List.mem_filter, hx]
end Go.DS

/-
  Walks: leads alone in the heap; the example of lead.
-/
namespace Go.DS
open Go Go.Proofs
set_option maxRecDepth 100000
set_option linter.unusedVariables false
set_option linter.unusedSimpArgs false
def cd8 : Cd := .seq (R [cb 0 (.tk (.c (kb false)))] [1, 2, 4]) (.seq (R [c0 9 (.bsl 1 [(.c (ki .i64 1)), (.c (ki .i64 2)), (.c (ki .i64 3))]), c0 10 (.bld [ki .i64 0, kz 1] [(1, 1, (.s 9))]), c0 1 (.new false (.c (.agg [ki .i64 0, kn 1]))), cn (.st 2 (.s 1) (.s 10))] [1, 2, 4]) (.seq (R [c0 11 (.bld [ki .i64 0, ki .i64 0, ki .i64 0] [(1, 1, (.c (ki .i64 1)))]), c0 2 (.new false (.c (.agg [ki .i64 0, ki .i64 0, ki .i64 0]))), cn (.st 3 (.s 2) (.s 11))] [1, 2, 4]) (.seq (R [c0 12 (.ld true 2 (.s 1)), c0 13 (.ld true 3 (.s 2)), c0 14 (.bld [ki .i64 0, ki .i64 0, ki .i64 0, ks [], ks [], ki .i64 0, ki .i64 0, ki .i64 0] [(0, 1, (.c (ki .i64 1)))]), c0 15 (.bld [ki .i64 0, kz 3] [(0, 1, (.c (ki .i64 1)))]), c0 16 (.call none (.c (kf 17)) [(.s 12), (.c (ki .i64 1)), (.s 13), (.s 14), (.s 15)]), c0 3 (.tk (.s 16))] [1, 2, 3, 4]) (.seq (.seq (R [c0 17 (.mv (.s 3)), cb 18 (.bin .eql .ptr (.s 17) (.c (.sc (.pointer none))))] [1, 2, 3, 4, 18]) (.ite (.s 18) (.seq (R [cb 0 (.tk (.c (kb false)))] [0, 1, 2, 4]) (.ret)) (.skip))) (.seq (R [c0 19 (.ld true 3 (.s 2)), c0 20 (.bld [ki .i64 0, ki .i64 0] [(1, 1, (.c (ki .i64 1)))]), c0 21 (.bld [ki .i64 0, kz 3] [(0, 1, (.c (ki .i64 1)))]), c0 22 (.bld [ki .i64 0, ki .i64 0, ki .i64 0, ki .i64 0, ki .i64 0, ki .i64 0, ki .i64 0, ki .i64 0, ks [], ks [], ki .i64 0, ki .i64 0, ki .i64 0, ki .i64 0, kz 3] [(13, 2, (.s 21))]), c0 23 (.bld [ki .i64 0, ki .i64 0, ki .i64 0, ki .i64 0, ki .i64 0, ki .i64 0, ki .i64 0, ki .i64 0, ki .i64 0, ki .i64 0, ki .i64 0, ki .i64 0, ki .i64 0, ki .i64 0, ki .i64 0, ki .i64 0, ks [], ks [], ki .i64 0, ki .i64 0, ki .i64 0, ki .i64 0, kz 3, ki .i64 0, kz 1, kz 3, kz 6] [(0, 1, (.c (ki .i64 1))), (1, 1, (.c (ki .i64 1))), (2, 1, (.c (ki .i64 1))), (3, 3, (.s 19)), (6, 2, (.s 20)), (8, 15, (.s 22))]), c0 4 (.new false (.c (.agg [ki .i64 0, ki .i64 0, ki .i64 0, ki .i64 0, ki .i64 0, ki .i64 0, ki .i64 0, ki .i64 0, ki .i64 0, ki .i64 0, ki .i64 0, ki .i64 0, ki .i64 0, ki .i64 0, ki .i64 0, ki .i64 0, ks [], ks [], ki .i64 0, ki .i64 0, ki .i64 0, ki .i64 0, kn 3, ki .i64 0, kn 1, kn 3, kn 6]))), cn (.st 27 (.s 4) (.s 23))] [1, 2, 3, 4]) (.seq (R [c0 24 (.mv (.s 3)), c0 25 (.ld true 27 (.s 4)), cb 26 (.call none (.c (kf 13)) [(.s 24), (.s 25)]), cb 5 (.tk (.s 26))] [1, 2, 3, 4, 5]) (.seq (R [c0 27 (.mov 1 (.s 4)), cn (.st 1 (.s 27) (.c (ki .i64 2)))] [1, 2, 3, 4, 5]) (.seq (R [c0 28 (.mv (.s 3)), c0 29 (.ld true 27 (.s 4)), cb 30 (.call none (.c (kf 13)) [(.s 28), (.s 29)]), cb 6 (.tk (.s 30))] [1, 2, 3, 4, 5, 6]) (.seq (R [c0 31 (.mv (.s 3)), cb 32 (.call none (.c (kf 15)) [(.s 31)]), cb 7 (.tk (.s 32))] [1, 2, 3, 4, 5, 6, 7]) (.seq (R [c0 33 (.ld true 2 (.s 1)), c0 34 (.ld true 3 (.s 2)), c0 35 (.bld [ki .i64 0, ki .i64 0] [(0, 1, (.c (ki .i64 1))), (1, 1, (.c (ki .i64 2)))]), c0 36 (.call none (.c (kf 10)) [(.s 33), (.c (ki .i64 2)), (.s 34), (.s 35)]), c0 8 (.tk (.s 36))] [1, 2, 3, 4, 5, 6, 7, 8]) (.seq (R (cb 37 (.mv (.s 5)) :: cb 38 (.un .not (.s 37)) :: cb 39 (.mv (.s 38)) :: ch 40 39 true (.mv (.s 6)) :: ch 41 39 true (.un .not (.s 40)) :: cb 42 (.pick (.s 39) (.s 41) (.c (kb false))) :: cb 43 (.mv (.s 42)) :: ch 44 43 true (.mv (.s 7)) :: cb 45 (.pick (.s 43) (.s 44) (.c (kb false))) :: cb 46 (.mv (.s 45)) :: cg 47 46 true (.mv (.s 3)) :: cg 48 46 true (.call none (.c (kf 12)) [(.s 47)]) :: ch 49 46 true (.bin .eql .any (.s 48) (.c (ki .i64 1))) :: cb 50 (.pick (.s 46) (.s 49) (.c (kb false))) :: cb 51 (.mv (.s 50)) :: cg 52 51 true (.mv (.s 3)) :: cg 53 51 true (.call none (.c (kf 19)) [(.s 52)]) :: cg 54 51 true (.fld 0 false 1 (.s 53)) :: ch 55 51 true (.bin .eql .any (.s 54) (.c (ki .i64 2))) :: cb 56 (.pick (.s 51) (.s 55) (.c (kb false))) :: cb 57 (.mv (.s 56)) :: cg 58 57 true (.mv (.s 3)) :: cg 59 57 true (.call none (.c (kf 11)) [(.s 58)]) :: cg 60 57 true (.len 1 (.s 59)) :: ch 61 57 true (.bin .eql .any (.s 60) (.c (ki .i64 3))) :: cb 62 (.pick (.s 57) (.s 61) (.c (kb false))) :: cb 63 (.mv (.s 62)) :: cg 64 63 true (.mv (.s 8)) :: ch 65 63 true (.bin .neq .ptr (.s 64) (.c (.sc (.pointer none)))) :: cb 66 (.pick (.s 63) (.s 65) (.c (kb false))) :: cb 67 (.mv (.s 66)) :: cg 68 67 true (.mv (.s 8)) :: cg 69 67 true (.call none (.c (kf 12)) [(.s 68)]) :: ch 70 67 true (.bin .eql .any (.s 69) (.c (ki .i64 2))) :: cb 71 (.pick (.s 67) (.s 70) (.c (kb false))) :: cb 72 (.mv (.s 71)) :: cg 73 72 true (.mv (.s 8)) :: cg 74 72 true (.call none (.c (kf 26)) [(.s 73)]) :: cg 75 72 true (.fld 0 false 1 (.s 74)) :: ch 76 72 true (.bin .eql .any (.s 75) (.c (ki .i64 1))) :: cb 77 (.pick (.s 72) (.s 76) (.c (kb false))) :: cb 78 (.mv (.s 77)) :: cb 79 (.pick (.s 78) (.c (kb true)) (.c (kb false))) :: cb 80 (.mv (.s 79)) :: cb 81 (.pick (.s 80) (.c (kb true)) (.c (kb false))) :: cb 82 (.mv (.s 81)) :: cb 83 (.pick (.s 82) (.c (kb true)) (.c (kb false))) :: cb 0 (.tk (.s 83)) :: []) [0, 1, 2, 4]) (.ret))))))))))))
theorem fun8 : Fun Try.prog cfg 8 84 cd8 [.s 0] := ⟨rfl, Try.f8, _, Try.func8, rfl, rfl, by kernel_rfl, by kernel_rfl⟩
@[go_sem] theorem ok8 : calleeOK Try.prog 8 = true := by kernel_rfl
@[go_sem] theorem ex8 : (cfg.ext 8).isSome = false := rfl
def cd22 : Cd := .seq (R [c0 1 (.new false (.s 0)), cb 2 (.tk (.c (kb false)))] [1]) (.seq (R [c0 4 (.ld true 27 (.s 1)), c0 5 (.bsl 27 [(.s 4)]), cb 6 (.call none (.c (kf 9)) [(.s 5)]), cb 3 (.tk (.s 6))] [1, 3]) (.seq (R [cb 7 (.mv (.s 3)), cb 8 (.un .not (.s 7)), cb 2 (.tk (.s 8))] [1, 2]) (.ret)))
theorem fun22 : Fun Try.prog cfg 22 9 cd22 [.s 2] := ⟨rfl, Try.f22, _, Try.func22, rfl, rfl, by kernel_rfl, by kernel_rfl⟩
@[go_sem] theorem ok22 : calleeOK Try.prog 22 = true := by kernel_rfl
@[go_sem] theorem ex22 : (cfg.ext 22).isSome = false := rfl
variable {h : DHeap}
abbrev HL (L : Ld) : DHeap := [.cells (cellsL L (votD L))]
/-- A lead that may be. -/
structure LdW (n : Nat) (L : Ld) : Prop where
  ok : LdOK n L
  nil : L.rw = true → L.vo = []
theorem LdW.at {n : Nat} {L : Ld} (W : LdW n L) : AtL (HL L) 0 L := ⟨rfl, W.nil⟩
theorem hbHL (L : Ld) : HBl (HL L) := by
  unfold HBl
  rw [List.all_cons, below_L]
  rfl
theorem LdW.hear {n : Nat} {L : Ld} (W : LdW n L) {m : Mes} (hm : MesOK m) : LdW (n + 1) (hearL L m).2 := ⟨hear_okL W.ok hm, hear_nil W.nil m⟩
theorem LdW.hears {n : Nat} {L : Ld} (W : LdW n L) (l : List Mes) (hm : ∀ m ∈ l, MesOK m) : LdW (n + l.length) (hearsL L l) := ⟨hearsL_ok W.ok l hm, hearsL_nil W.nil l⟩
theorem LdW.mono {n n' : Nat} {L : Ld} (W : LdW n L) (h : n ≤ n') : LdW n' L := ⟨W.ok.mono h, W.nil⟩
theorem newL_W (c : Con) (node : Int) (id : Id) (cmd : Cmd) (a : Att) (h1 : c.nodes.length ≤ 1048576) (h2 : a.deps.length ≤ 100) : LdW 0 (newL c node id cmd a) := ⟨newL_ok c node id cmd a h1 h2, fun _ => rfl⟩
theorem takeL_W (c : Con) (node : Int) (id : Id) (b : Bal) (h1 : c.nodes.length ≤ 1048576) : LdW 0 (takeL c node id b) := ⟨takeL_ok c node id b h1, fun _ => rfl⟩
theorem slow_W {n : Nat} {L : Ld} (W : LdW n L) (hn : n ≤ 100) : LdW 101 (slowL L).2 := by
  unfold slowL
  split
  · have O := W.ok
    refine ⟨⟨O.nodes, Nat.zero_le _, ?_, fun v hv => by cases hv⟩, fun _ => rfl⟩
    show (allA (attrsL L)).deps.length ≤ _
    have h3 := allA_len (attrsL L) 61 fun a ha => by
      obtain ⟨v, hv, rfl⟩ := List.mem_map.1 ha
      exact O.deps v hv
    have h4 : (attrsL L).length ≤ n := by unfold attrsL; rw [List.length_map]; exact O.vo
    have h5 := Nat.mul_le_mul_right 61 h4
    omega
  · exact W.mono (by omega)
theorem newHL_lim (c : Con) (node : Int) (id : Id) (cmd : Cmd) (a : Att) (hc : c.nodes.length ≤ 1048576) (ha : a.deps.length ≤ 1048576) :
    lim Try.prog cfg 17 [.agg [vi c.epoch, .list false 1 (vnums c.nodes)], vi node, .agg [vi id.e, vi id.n, vi id.k], cmdD cmd, attD a] [] = some (.ptr 0 0, HL (newL c node id cmd a)) := new16_lim (h := []) c node id cmd a hc ha
theorem takeHL_lim (c : Con) (node : Int) (id : Id) (b : Bal) (hc : c.nodes.length ≤ 1048576) :
    lim Try.prog cfg 10 [.agg [vi c.epoch, .list false 1 (vnums c.nodes)], vi node, .agg [vi id.e, vi id.n, vi id.k], .agg [vi b.no, vi b.node]] [] = some (.ptr 0 0, HL (takeL c node id b)) := take16_lim (h := []) c node id b hc
theorem hearHL_lim {n : Nat} {L : Ld} (W : LdW n L) (hn : n ≤ 98) (m : Mes) (hm : MesOK m) : lim Try.prog cfg 13 [.ptr 0 0, mesD m] (HL L) = some (vb (hearL L m).1, HL (hearL L m).2) := hearL_lim W.at W.ok hn (hbHL L) m hm
theorem slowHL_lim {n : Nat} {L : Ld} (W : LdW n L) (hn : n ≤ 100) : lim Try.prog cfg 15 [.ptr 0 0] (HL L) = some (vb (slowL L).1, HL (slowL L).2) := slow_lim W.at W.ok hn
theorem phaseHL_lim {n : Nat} {L : Ld} (W : LdW n L) : lim Try.prog cfg 12 [.ptr 0 0] (HL L) = some (vi L.ph, HL L) := phase_lim W.at
theorem ballotHL_lim {n : Nat} {L : Ld} (W : LdW n L) : lim Try.prog cfg 26 [.ptr 0 0] (HL L) = some (.agg [vi (ballotL L).no, vi (ballotL L).node], HL L) := ballotL_lim W.at
theorem waitHL_lim {n : Nat} {L : Ld} (W : LdW n L) (hn : n ≤ 1000) : lim Try.prog cfg 11 [.ptr 0 0] (HL L) = some (.list true 1 (vnums (waitL L)), HL L) := wait_lim W.at W.ok.nodes (by have := W.ok.vo; omega)
theorem askHL_lim {n : Nat} {L : Ld} (W : LdW n L) (hn : n ≤ 1000) : lim Try.prog cfg 19 [.ptr 0 0] (HL L) = some (mesD (askL L), HL L) := ask_lim W.at (by have := W.ok.att; omega)
theorem small16_lim (m : Mes) : lim Try.prog cfg 22 [mesD m] h = some (vb (!overM [m]), h) := by
  refine lim_funp fun22 rfl (by simp) (by simp [heapFree, heapFree.all, free_vnums, free_mess, free_idr, free_pes, free_pss]) rfl ?_
  delta cd22
  have o := fun own => over15_lim (h := []) own [m]
  rw [show mess [m] = [mesL m] from rfl] at o
  cases hc : overM [m] <;> rw [hc] at o <;> simp -implicitDefEqProofs -dsimp only [go_sem, o] <;> rfl
abbrev con16 : Con := ⟨0, [1, 2, 3]⟩
abbrev id16 : Id := ⟨0, 1, 0⟩
abbrev L16 : Ld := newL con16 1 id16 ⟨1, 0, 0, [], [], 0, 0, 0⟩ ⟨1, []⟩
abbrev m16 : Mes := ⟨1, 1, 1, id16, ⟨0, 1⟩, ⟨0, ⟨0, 0⟩, ⟨0, 0⟩, ⟨0, 0, 0, [], [], 0, 0, 0⟩, ⟨1, []⟩⟩, ⟨⟨0, []⟩, [], []⟩⟩
theorem W16_0 : LdW 0 L16 := newL_W _ _ _ _ _ (by simp) (by simp)
theorem m16_ok (k : Int) : MesOK { m16 with frm := k } := ⟨by simp, by simp⟩
abbrev L16a : Ld := { L16 with vo := [(1, m16.ins)], rw := false }
abbrev L16b : Ld := { L16 with vo := [(1, m16.ins), (2, m16.ins)], rw := false }
abbrev T16 : Ld := takeL con16 2 id16 ⟨1, 2⟩
theorem same16 : sameA ⟨1, []⟩ ⟨1, []⟩ = true := sameA_iff.2 ⟨rfl, fun _ => Iff.rfl⟩
theorem hear16a : hearL L16 m16 = (false, L16a) := by
  unfold hearL
  rw [if_neg (by decide), if_neg (by decide), if_neg (by decide), if_neg (by decide), if_pos (by decide)]
  have e : (L16.first && !(attrsL L16a).any (fun a => !sameA a L16a.att)) = true := by simp [attrsL, L16, newL, same16]
  show proposedL L16a = _
  unfold proposedL
  rw [if_pos e, if_neg (by decide)]
theorem hear16b : hearL L16a { m16 with frm := 2 } = (false, L16b) := by
  unfold hearL
  rw [if_neg (by decide), if_neg (by decide), if_neg (by decide), if_neg (by decide), if_pos (by decide)]
  have e : (L16.first && !(attrsL L16b).any (fun a => !sameA a L16b.att)) = true := by simp [attrsL, L16, newL, same16]
  show proposedL L16b = _
  unfold proposedL
  rw [if_pos e, if_neg (by decide)]
abbrev S16 : Ld := turnL L16b 1 L16.cmd (allA (attrsL L16b))
theorem slow16 : slowL L16b = (true, S16) := by unfold slowL; rw [if_pos (by decide)]
theorem W16_1 : LdW 1 L16a := by
  have := W16_0.hear (m16_ok 1)
  rwa [show (hearL L16 { m16 with frm := 1 }).2 = L16a from congrArg Prod.snd hear16a] at this
theorem W16_2 : LdW 2 L16b := by
  have := W16_1.hear (m16_ok 2)
  rwa [hear16b] at this
theorem W16_3 : LdW 101 S16 := by
  have := slow_W W16_2 (by omega)
  rwa [slow16] at this
theorem E16a : lim Try.prog cfg 13 [.ptr 0 0, .agg [vi 1, vi 1, vi 1, vi 0, vi 1, vi 0, vi 0, vi 1, vi 0, vi 0, vi 0, vi 0, vi 0, vi 0, vi 0, vi 0, vs [], vs [], vi 0, vi 0, vi 0, vi 1, .list false 3 [], vi 0, .list false 1 [], .list false 3 [], .list false 6 []]] (HL L16) = some (vb false, HL L16a) := by
  have := hearHL_lim W16_0 (by omega) m16 (m16_ok 1)
  rw [hear16a] at this
  exact this
theorem E16b : lim Try.prog cfg 13 [.ptr 0 0, .agg [vi 1, vi 2, vi 1, vi 0, vi 1, vi 0, vi 0, vi 1, vi 0, vi 0, vi 0, vi 0, vi 0, vi 0, vi 0, vi 0, vs [], vs [], vi 0, vi 0, vi 0, vi 1, .list false 3 [], vi 0, .list false 1 [], .list false 3 [], .list false 6 []]] (HL L16a) = some (vb false, HL L16b) := by
  have := hearHL_lim W16_1 (by omega) { m16 with frm := 2 } (m16_ok 2)
  rw [hear16b] at this
  exact this
theorem E16c : lim Try.prog cfg 15 [.ptr 0 0] (HL L16b) = some (vb true, HL S16) := by
  have := slowHL_lim W16_2 (by omega)
  rw [slow16] at this
  exact this
abbrev HB16 : DHeap := [.cells (cellsL S16 (votD S16)), .cells (cellsL T16 (votD T16))]
theorem E16d : lim Try.prog cfg 10 [.agg [vi 0, .list false 1 [[vi 1], [vi 2], [vi 3]]], vi 2, .agg [vi 0, vi 1, vi 0], .agg [vi 1, vi 2]] (HL S16) = some (.ptr 1 0, HB16) := take16_lim (h := HL S16) con16 2 id16 ⟨1, 2⟩ (by simp)
theorem at16s : AtL HB16 0 S16 := ⟨rfl, fun _ => rfl⟩
theorem at16t : AtL HB16 1 T16 := ⟨rfl, fun _ => rfl⟩
theorem E16e : lim Try.prog cfg 12 [.ptr 0 0] HB16 = some (vi 1, HB16) := phase_lim at16s
theorem E16f : lim Try.prog cfg 12 [.ptr 1 0] HB16 = some (vi 2, HB16) := phase_lim at16t
theorem E16g : lim Try.prog cfg 11 [.ptr 0 0] HB16 = some (.list true 1 [[vi 1], [vi 2], [vi 3]], HB16) := by
  have := wait_lim at16s (by simp [turnL, newL]) (by simp [turnL])
  rw [show waitL S16 = [1, 2, 3] from by decide] at this
  exact this
theorem E16h : lim Try.prog cfg 26 [.ptr 1 0] HB16 = some (.agg [vi 1, vi 2], HB16) := ballotL_lim at16t
theorem E16i : ∃ x : Mes, x.kind = 2 ∧ lim Try.prog cfg 19 [.ptr 0 0] HB16 = some (mesD x, HB16) := ⟨_, rfl, ask_lim at16s (by have := W16_3.ok.att; exact Nat.le_trans this (by omega))⟩
set_option maxHeartbeats 4000000 in
theorem works16_lim : lim Try.prog cfg 8 [] h = some (vb true, h) := by
  refine lim_funp fun8 rfl (by simp) rfl rfl ?_
  delta cd8
  have n1 : lim Try.prog cfg 17 [.agg [vi 0, .list false 1 [[vi 1], [vi 2], [vi 3]]], vi 1, .agg [vi 0, vi 1, vi 0], .agg [vi 1, vi 0, vi 0, vs [], vs [], vi 0, vi 0, vi 0], .agg [vi 1, .list false 3 []]] [] = some (.ptr 0 0, HL L16) := newHL_lim con16 1 id16 ⟨1, 0, 0, [], [], 0, 0, 0⟩ ⟨1, []⟩ (by simp) (by simp)
  have E1 := E16a
  have E2 := E16b
  have E3 := E16c
  have E4 := E16d
  have E5 := E16e
  have E6 := E16f
  have E7 := E16g
  have E8 := E16h
  obtain ⟨x, k1, E9⟩ := E16i
  generalize HL L16 = h0 at *
  generalize HL L16a = h1 at *
  generalize HL L16b = h2 at *
  generalize HL S16 = h3 at *
  generalize HB16 = h4 at *
  simp -implicitDefEqProofs -dsimp (maxSteps := 300000) only [go_sem, n1, E1, E2, E3, E4, E5, E6, E7, E8, E9, eq_true k1]
end Go.DS
