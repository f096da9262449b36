/-
  What Go's library answers.
-/
import Derived.Test.YthncbanajpiadaaGreatK4
import Derived.Lib.Bytealg
import Derived.Lib.Join
import Derived.Test.YthncbanajpiadaaGreatProg
import Derived.KernelRfl
import Derived.Test.YthncbanajpiadaaGreatChecked
import Derived.Lib.Strings
import Derived.Lib.Slices
import Derived.Lib.Walk
import Derived.Shelf.Strings.OnBuilder
import Derived.Below
import Derived.Laws.AppendOwn
import Derived.Maps.RangeWalk
import Derived.WalkKit
import Derived.Shelf.SlMaps.Clone
import Derived.Shelf.SlSortCmp.NoneTotal
import Derived.Shelf.SlIter.Collect
import Derived.Shelf.SlicesE.Clone
import Derived.OwnWalk
import Derived.Sort.OwnSorted
import Derived.Maps.AppendAt
import Derived.LoopTactic
import Derived.Shelf.SlIterI.Sorted
import Derived.Shelf.SortM.Plain
import Derived.Shelf.SortM.SortNone
import Derived.Deep.RegionHeld3
import Derived.Shelf.Spec.SlicesGrow
set_option linter.unusedSimpArgs false
set_option linter.unusedVariables false
namespace Go.DS
open Go
def byteOf (n : Int) : UInt8 := n.toNat.toUInt8
def indexF : List DV → DHeap → Option (DV × DHeap)
  | [.sc (.string s), .sc (.int .u8 c)], h => some (.sc (.int .i64 (Lib.indexByte s.data.toList (byteOf c))), h)
  | _, _ => none
def compF : List DV → DHeap → Option (DV × DHeap)
  | [.sc (.string s), .sc (.string u)], h => some (.sc (.int .i64 (Lib.compareBytes s.data.toList u.data.toList)), h)
  | _, _ => none
def strsOf : List (List DV) → Option (List (List UInt8))
  | [] => some []
  | [.sc (.string s)] :: l => match strsOf l with
    | some r => some (s.data.toList :: r)
    | none => none
  | _ => none
def joinF : List DV → DHeap → Option (DV × DHeap)
  | [.list _ 1 l, .sc (.string s)], h => match strsOf l with
    | some xs => if xs.length ≤ 1048576 ∧ (Lib.join xs s.data.toList).length ≤ 1099511627776 then some (.sc (.string (mkB (Lib.join xs s.data.toList))), h) else none
    | none => none
  | _, _ => none
/-- slices.Grow of nil. -/
def growF (es : Nat) : List DV → DHeap → Option (DV × DHeap)
  | [.sc (.slice none 0 0), .sc (.int .i64 n)], h => if 0 ≤ n ∧ n ≤ 1048576 then some (.list true es [], h) else none
  | _, _ => none
/-- A list of texts. -/
def ts (l : List (List UInt8)) : List (List DV) := l.map fun s => [.sc (.string (mkB s))]
@[go_sem] theorem ts_len (l : List (List UInt8)) : (ts l).length = l.length := by simp [ts]
@[go_sem] theorem ts_snoc (l : List (List UInt8)) (x : List UInt8) : ts l ++ [[.sc (.string (mkB x))]] = ts (l ++ [x]) := by simp [ts]
@[go_sem] theorem ts_app (l m : List (List UInt8)) : ts l ++ ts m = ts (l ++ m) := by simp [ts]
@[go_sem] theorem ts_take (l : List (List UInt8)) (k : Nat) : (ts l).take k = ts (l.take k) := by simp [ts, List.map_take]
@[go_sem] theorem ts_drop (l : List (List UInt8)) (k : Nat) : (ts l).drop k = ts (l.drop k) := by simp [ts, List.map_drop]
theorem ts_nil : ts [] = [] := rfl
@[go_sem high] theorem idxP_ts (l : List (List UInt8)) (i : Int) (N : List DV → Prop) : IdxP (ts l) i N = IdxP l i fun x => N [.sc (.string (mkB x))] := idxP_map
theorem strsOf_ts : ∀ l : List (List UInt8), strsOf (ts l) = some l
  | [] => rfl
  | s :: l => by
    have := strsOf_ts l
    simp only [ts] at this
    simp only [ts, List.map_cons, strsOf, this]
    rfl
theorem idxP_last {α : Type} (l : List α) (x : α) (N : α → Prop) : IdxP (l ++ [x]) (l.length : Int) N = N x := by
  rw [idxP_nat]; simp
theorem free_ts : ∀ l : List (List UInt8), heapFree.alls (ts l) = true
  | [] => rfl
  | s :: l => by
    have := free_ts l
    simp only [ts] at this
    simp only [ts, List.map_cons, heapFree.alls, heapFree.all, heapFree, this, Bool.and_self]
end Go.DS

/-
  Paths, as plain lists of bytes.
-/
namespace Go.DS
open Go
abbrev Str := List UInt8
def okc (c : UInt8) : Bool := (97 ≤ c.toNat && c.toNat ≤ 122) || (48 ≤ c.toNat && c.toNat ≤ 57) || c.toNat == 45 || c.toNat == 95
def nameOK (l : Str) : Bool := l.all okc && decide (1 ≤ l.length ∧ l.length ≤ 16)
theorem okc_iff (c : UInt8) : okc c = true ↔ (97 ≤ c.toNat ∧ c.toNat ≤ 122) ∨ (48 ≤ c.toNat ∧ c.toNat ≤ 57) ∨ c.toNat = 45 ∨ c.toNat = 95 := by
  simp only [okc, Bool.or_eq_true, Bool.and_eq_true, decide_eq_true_eq, beq_iff_eq, or_assoc]
theorem okc_not (c : UInt8) : okc c = false ↔ ¬ ((97 ≤ c.toNat ∧ c.toNat ≤ 122) ∨ (48 ≤ c.toNat ∧ c.toNat ≤ 57) ∨ c.toNat = 45 ∨ c.toNat = 95) := by
  rw [← okc_iff]; simp
theorem take_all {p : UInt8 → Bool} {l : List UInt8} {k : Nat} (hk : k < l.length) (ha : (l.take k).all p = true) (hp : p l[k] = true) : (l.take (k + 1)).all p = true := by
  rw [List.take_succ_eq_append_getElem hk, List.all_append, ha]
  simp [hp]
theorem not_all {p : UInt8 → Bool} {l : List UInt8} {k : Nat} (hk : k < l.length) (hp : p l[k] = false) : l.all p = false := by
  rw [← Bool.not_eq_true, List.all_eq_true]
  intro hall
  have := hall _ (List.getElem_mem hk)
  rw [hp] at this
  cases this

/-- Up to the next slash; behind it. -/
def seg : Str → Str := List.takeWhile (· ≠ 47)
def aft : Str → Str := List.dropWhile (· ≠ 47)
theorem seg_aft (r : Str) : seg r ++ aft r = r := List.takeWhile_append_dropWhile
theorem aft_le (r : Str) : (aft r).length ≤ r.length := by
  have := congrArg List.length (seg_aft r)
  simp at this; omega
theorem index_lt (r : Str) : Lib.indexByte r 47 = if aft r = [] then -1 else ((seg r).length : Int) := by
  induction r with
  | nil => rfl
  | cons c r ih =>
    unfold Lib.indexByte
    by_cases hc : c = 47
    · subst hc; simp [seg, aft]
    · have h1 : seg (c :: r) = c :: seg r := by simp [seg, hc]
      have h2 : aft (c :: r) = aft r := by simp [aft, hc]
      rw [h1, h2, ih]
      have hb : (c == 47) = false := by simpa using hc
      simp only [hb, Bool.false_eq_true, if_false, List.length_cons]
      split
      · simp
      · have : ((seg r).length : Int) ≠ -1 := by omega
        simp [this]

/-- What split's loop comes to. -/
def runP (p : Str) (l : List Str) : Option (List Str) := match p with
  | [] => if l = [] then none else some l
  | c :: r => if c ≠ 47 then none else if 8 ≤ l.length ∨ nameOK (seg r) = false then none else runP (aft r) (l ++ [seg r])
termination_by p.length
decreasing_by have := aft_le r; simp; omega
/-- A path's names. -/
def parse (p : Str) : Option (List Str) := if p = [47] then some [] else runP p []
end Go.DS

/-
  Maps as plain lists of keys and values.
-/
namespace Go.DS
open Go
set_option linter.unusedVariables false
section
variable {κ α : Type} [DecidableEq κ]
def aget (k : κ) : List (κ × α) → Option α
  | [] => none
  | e :: es => if k = e.1 then some e.2 else aget k es
def aset (k : κ) (v : α) : List (κ × α) → List (κ × α)
  | [] => [(k, v)]
  | e :: es => if k = e.1 then (k, v) :: es else e :: aset k v es
def adel (k : κ) : List (κ × α) → List (κ × α)
  | [] => []
  | e :: es => if k = e.1 then es else e :: adel k es
def keys (es : List (κ × α)) : List κ := es.map (·.1)
theorem aget_iff {k : κ} {es : List (κ × α)} : (aget k es).isSome = true ↔ k ∈ keys es := by
  induction es with
  | nil => simp [aget, keys]
  | cons e es ih =>
    simp only [aget, keys, List.map_cons, List.mem_cons]
    by_cases h : k = e.1
    · simp [h]
    · rw [if_neg h, ih]; simp [h, keys]
theorem aget_none {k : κ} {es : List (κ × α)} : aget k es = none ↔ k ∉ keys es := by
  rw [← aget_iff, ← Option.not_isSome_iff_eq_none]
theorem aget_mem {k : κ} {v : α} {es : List (κ × α)} (h : aget k es = some v) : (k, v) ∈ es := by
  induction es with
  | nil => cases h
  | cons e es ih =>
    simp only [aget] at h
    split at h
    · rename_i hk; cases h; subst hk; exact List.mem_cons_self
    · exact List.mem_cons_of_mem _ (ih h)
theorem aget_of_mem {k : κ} {v : α} {es : List (κ × α)} (hn : (keys es).Nodup) (h : (k, v) ∈ es) : aget k es = some v := by
  induction es with
  | nil => cases h
  | cons e es ih =>
    simp only [keys, List.map_cons, List.nodup_cons] at hn
    simp only [aget]
    rcases List.mem_cons.1 h with rfl | h
    · simp
    · have : k ≠ e.1 := fun he => hn.1 (he ▸ List.mem_map_of_mem (f := (·.1)) h)
      rw [if_neg this]; exact ih hn.2 h
theorem aget_set (k j : κ) (v : α) (es : List (κ × α)) : aget j (aset k v es) = if j = k then some v else aget j es := by
  induction es with
  | nil => simp [aset, aget]
  | cons e es ih =>
    simp only [aset]
    by_cases h : k = e.1
    · rw [if_pos h]
      simp only [aget]
      by_cases hj : j = k
      · simp [hj]
      · rw [if_neg hj, if_neg hj, if_neg (h ▸ hj)]
    · rw [if_neg h]
      simp only [aget, ih]
      by_cases hj : j = e.1
      · rw [if_pos hj, if_pos hj, if_neg (fun e' => h (e'.symm.trans hj))]
      · rw [if_neg hj, if_neg hj]
omit [DecidableEq κ] in
theorem keys_cons (e : κ × α) (es : List (κ × α)) : keys (e :: es) = e.1 :: keys es := rfl
theorem keys_set (k : κ) (v : α) (es : List (κ × α)) : keys (aset k v es) = if k ∈ keys es then keys es else keys es ++ [k] := by
  induction es with
  | nil => simp [aset, keys]
  | cons e es ih =>
    simp only [aset]
    by_cases h : k = e.1
    · rw [if_pos h, keys_cons, keys_cons, if_pos (by simp [h]), h]
    · rw [if_neg h, keys_cons, keys_cons, ih]
      by_cases hm : k ∈ keys es
      · rw [if_pos hm, if_pos (by simp [hm])]
      · rw [if_neg hm, if_neg (by simp [hm, h])]; rfl
theorem nodup_set {k : κ} {v : α} {es : List (κ × α)} (h : (keys es).Nodup) : (keys (aset k v es)).Nodup := by
  rw [keys_set]
  split
  · exact h
  · rename_i hk
    rw [List.nodup_append]
    exact ⟨h, by simp, fun a ha b hb => by rw [List.mem_singleton.1 hb]; exact fun e => hk (e ▸ ha)⟩
omit [DecidableEq κ] in
theorem keys_len (es : List (κ × α)) : (keys es).length = es.length := by simp [keys]
theorem len_set (k : κ) (v : α) (es : List (κ × α)) : (aset k v es).length = if k ∈ keys es then es.length else es.length + 1 := by
  have := congrArg List.length (keys_set k v es)
  rw [keys_len] at this
  rw [this]
  by_cases hm : k ∈ keys es
  · rw [if_pos hm, if_pos hm, keys_len]
  · rw [if_neg hm, if_neg hm, List.length_append, keys_len]; rfl
theorem adel_eq {k : κ} {es : List (κ × α)} (h : (keys es).Nodup) : adel k es = es.filter fun e => decide (e.1 ≠ k) := by
  induction es with
  | nil => rfl
  | cons e es ih =>
    simp only [keys, List.map_cons, List.nodup_cons] at h
    simp only [adel]
    by_cases hk : k = e.1
    · rw [if_pos hk, List.filter_cons_of_neg (by simp [hk])]
      rw [List.filter_eq_self.2]
      intro x hx
      simp only [decide_eq_true_eq]
      intro he
      exact h.1 (by rw [← hk, ← he]; exact List.mem_map_of_mem (f := (·.1)) hx)
    · rw [if_neg hk, List.filter_cons_of_pos (by simp [Ne.symm hk]), ih h.2]
theorem aget_del {k j : κ} {es : List (κ × α)} (h : (keys es).Nodup) : aget j (adel k es) = if j = k then none else aget j es := by
  rw [adel_eq h]
  clear h
  induction es with
  | nil => simp [aget]
  | cons e es ih =>
    by_cases hk : e.1 = k
    · rw [List.filter_cons_of_neg (by simp [hk]), ih]
      simp only [aget]
      by_cases hj : j = k
      · simp [hj]
      · rw [if_neg hj, if_neg hj, if_neg (hk ▸ hj)]
    · rw [List.filter_cons_of_pos (by simp [hk])]
      simp only [aget, ih]
      by_cases hj : j = e.1
      · rw [if_pos hj, if_pos hj, if_neg (fun e' => hk (hj ▸ e'))]
      · rw [if_neg hj, if_neg hj]
theorem nodup_del {k : κ} {es : List (κ × α)} (h : (keys es).Nodup) : (keys (adel k es)).Nodup := by
  rw [adel_eq h]
  exact h.sublist (List.filter_sublist.map _)
theorem keys_del {k : κ} {es : List (κ × α)} (h : (keys es).Nodup) : keys (adel k es) = (keys es).filter fun x => decide (x ≠ k) := by
  rw [adel_eq h]
  simp only [keys]
  rw [List.filter_map]
  rfl

/-- As the evaluator has them. -/
def amap (K : κ → DV) (V : α → DV) (es : List (κ × α)) : List (DV × DV) := es.map fun e => (K e.1, V e.2)
variable {K : κ → DV} {V : α → DV} {ks : List Nat}
omit [DecidableEq κ] in
@[go_sem] theorem amap_len (es : List (κ × α)) : (amap K V es).length = es.length := by simp [amap]
theorem find_amap (hK : ∀ a b, eqKey ks (K a) (K b) = some (decide (a = b))) (k : κ) : ∀ es : List (κ × α), findD ks (K k) (amap K V es) = some ((aget k es).map V)
  | [] => rfl
  | e :: es => by
    have ih := find_amap hK k es
    simp only [amap] at ih
    simp only [amap, List.map_cons, findD, hK, aget]
    by_cases h : k = e.1
    · simp [h]
    · simp only [h, decide_false, ih, if_false]
theorem set_amap (hK : ∀ a b, eqKey ks (K a) (K b) = some (decide (a = b))) (k : κ) (v : α) : ∀ es : List (κ × α), setKey ks (K k) (V v) (amap K V es) = some (amap K V (aset k v es))
  | [] => rfl
  | e :: es => by
    have ih := set_amap hK k v es
    simp only [amap] at ih
    simp only [amap, List.map_cons, setKey, hK, aset]
    by_cases h : k = e.1
    · simp [h]
    · simp only [h, decide_false, ih, if_false, Option.map_some, List.map_cons]
theorem del_amap (hK : ∀ a b, eqKey ks (K a) (K b) = some (decide (a = b))) (k : κ) : ∀ es : List (κ × α), delKey ks (K k) (amap K V es) = some (amap K V (adel k es))
  | [] => rfl
  | e :: es => by
    have ih := del_amap hK k es
    simp only [amap] at ih
    simp only [amap, List.map_cons, delKey, hK, adel]
    by_cases h : k = e.1
    · simp [h]
    · simp only [h, decide_false, ih, if_false, Option.map_some, List.map_cons]
end
theorem mkB_beq (l m : List UInt8) : (mkB l == mkB m) = decide (l = m) := by
  have h : (mkB l == mkB m) = (Array.mk l == Array.mk m) := rfl
  rw [h, Bool.eq_iff_iff]
  simp
/-- Keys that are texts; that are whole numbers. -/
theorem eqK_str (a b : List UInt8) : eqKey [2] (.sc (.string (mkB a))) (.sc (.string (mkB b))) = some (decide (a = b)) := by
  simp only [eqKey, eqV, eq1, mkB_beq, Bool.and_true]
theorem eqK_int (k : IntKind) (a b : Int) : eqKey [0] (.sc (.int k a)) (.sc (.int k b)) = some (decide (a = b)) := by
  simp only [eqKey, eqV, eq1, if_true, Bool.and_true]
  rfl
end Go.DS

/-
  What library functions, and functions with a loop over a map, come to: told by proofs of their own.
-/
namespace Go.DS
open Go
set_option linter.unusedVariables false
/-- A copy of a map. -/
def cloneF : List DV → DHeap → Option (DV × DHeap)
  | [.mp i], h => match h[i]? with
    | some (.map es) => some (.mp h.length, h ++ [.map es])
    | _ => none
  | _, _ => none
def keyS : DV → Str
  | .sc (.string b) => b.data.toList
  | _ => []
abbrev txt (s : Str) : DV := .sc (.string (mkB s))
abbrev num (n : Int) : DV := .sc (.int .i64 n)
/-- Sorted by what tells two apart. -/
def sortC (cf : Str → Str → Int) (l : List Str) : List Str := l.mergeSort fun x y => !decide (cf y x < 0)
/-- What slices.SortFunc asks. -/
structure SortOK (P : Program) (o : FuncId) (cf : Str → Str → Int) (ks : List Str) : Prop where
  callee : calleeOK P o = true
  call : ∀ a ∈ ks, ∀ b ∈ ks, @CallOK ⟨true⟩ P o [txt a, txt b] [] (num (cf a b)) []
  irrefl : ∀ a ∈ ks, ¬ cf a a < 0
  trans : ∀ a ∈ ks, ∀ b ∈ ks, ∀ c ∈ ks, cf a b < 0 → cf b c < 0 → cf a c < 0
  ntrans : ∀ a ∈ ks, ∀ b ∈ ks, ∀ c ∈ ks, ¬ cf a b < 0 → ¬ cf b c < 0 → ¬ cf a c < 0
  total : ∀ a ∈ ks, ∀ b ∈ ks, ¬ cf a b < 0 → ¬ cf b a < 0 → a = b
/-- A map's keys are these texts. -/
structure KeysOK (es : List (DV × DV)) (ks : List Str) : Prop where
  keys : es.map (·.1) = ks.map txt
  nodup : ks.Nodup
  len : ks.length ≤ 1048576
  lens : ∀ k ∈ ks, k.length ≤ 1099511627776
open Classical in
/-- slices.SortedFunc of maps.Keys. -/
noncomputable def keysF (P : Program) (k1 o : FuncId) (cf : Str → Str → Int) : List DV → DHeap → Option (DV × DHeap)
  | [.fn (.func a) [] [.ptr i 0], .fn (.func b) [] []], h => match h[i]? with
    | some (.cells [.mp j]) => match h[j]? with
      | some (.map es) => if a = k1 ∧ b = o ∧ KeysOK es (es.map fun e => keyS e.1) ∧ SortOK P o cf (es.map fun e => keyS e.1) then some (.list true 1 (ts (sortC cf (es.map fun e => keyS e.1))), h) else none
      | _ => none
    | _ => none
  | _, _ => none
open Classical in
/-- Of a map's keys those with a mark, as something else, sorted. -/
noncomputable def namesF (P : Program) (par las o : FuncId) (pf lf : Str → Str) (cf : Str → Str → Int) : List DV → DHeap → Option (DV × DHeap)
  | [.ptr i 0, .sc (.string p)], h => match h[i]? with
    | some (.cells [.mp j]) => match h[j]? with
      | some (.map es) => if KeysOK es (es.map fun e => keyS e.1) ∧ (∀ k ∈ es.map (fun e => keyS e.1), CallOK P par [txt k] [] (txt (pf k)) [] ∧ CallOK P las [txt k] [] (txt (lf k)) [])
          ∧ SortOK P o cf (((es.map fun e => keyS e.1).filter fun k => decide (pf k = p.data.toList)).map lf) then
          some (.list true 1 (ts (sortC cf (((es.map fun e => keyS e.1).filter fun k => decide (pf k = p.data.toList)).map lf))), h) else none
      | _ => none
    | _ => none
  | _, _ => none
/-- Whole numbers as keys. -/
def keyI : DV → Int
  | .sc (.int _ n) => n
  | _ => 0
def sortI (l : List Int) : List Int := l.mergeSort fun x y => decide (x ≤ y)
def vnums (l : List Int) : List (List DV) := l.map fun n => [num n]
structure KeysIOK (es : List (DV × DV)) (ks : List Int) : Prop where
  keys : es.map (·.1) = ks.map num
  nodup : ks.Nodup
  len : ks.length ≤ 1048576
  range : ∀ k ∈ ks, -9223372036854775808 ≤ k ∧ k ≤ 9223372036854775807
open Classical in
/-- slices.Sorted of maps.Keys, of whole numbers. -/
noncomputable def keysIF (k1 : FuncId) : List DV → DHeap → Option (DV × DHeap)
  | [.fn (.func a) [] [.ptr i 0]], h => match h[i]? with
    | some (.cells [.mp j]) => match h[j]? with
      | some (.map es) => if a = k1 ∧ KeysIOK es (es.map fun e => keyI e.1) then some (.list true 1 (vnums (sortI (es.map fun e => keyI e.1))), h) else none
      | _ => none
    | _ => none
  | _, _ => none
open Classical in
/-- A copy of a list, which the call owns. -/
noncomputable def cloneLF (size : Nat) : List DV → DHeap → Option (DV × DHeap)
  | [.list _ es l], h => if es = size ∧ l.length ≤ 1048576 ∧ (∀ r ∈ l, r.length = size) ∧ l.flatten.all DV.cell = true then some (.list true size l, h) else none
  | _, _ => none
/-- A copy of a session machine: a copy of its paths, and of what it knows of its clients. -/
def mclF : List DV → DHeap → Option (DV × DHeap)
  | [.ptr i 0], h => match h[i]? with
    | some (.cells [.ptr d 0, .mp k]) => match h[d]? with
      | some (.cells [.mp j]) => match h[j]?, h[k]? with
        | some (.map es), some (.map fs) => some (.ptr (h.length + 3) 0, h ++ [.map es, .cells [.mp h.length], .map fs, .cells [.ptr (h.length + 1) 0, .mp (h.length + 2)]])
        | _, _ => none
      | _ => none
    | _ => none
  | _, _ => none
/-- Names of a path. -/
def namesP (p : Str) : List Str := (parse p).getD []
def pathOf (l : List Str) : Str := 47 :: Lib.join l [47]
def parentP (p : Str) : Str := if namesP p = [] then [] else pathOf (namesP p).dropLast
def lastP (p : Str) : Str := (namesP p).getLast?.getD []
def cmpF {α : Type} (F : α → α → Int) : List α → List α → Int
  | [], [] => 0
  | [], _ :: _ => -1
  | _ :: _, [] => 1
  | a :: x, b :: y => if F a b ≠ 0 then F a b else cmpF F x y
def lessP (p q : Str) : Bool := match parse p, parse q with
  | some a, some b => decide (cmpF Lib.compareBytes a b < 0)
  | _, _ => false
/-- Which of two paths comes first. -/
def ordP (a b : Str) : Int := if lessP a b = true then -1 else if a = b then 0 else 1
theorem cmpB_zero : ∀ (s u : Str), Lib.compareBytes s u = 0 ↔ s = u
  | [], [] => by simp [Lib.compareBytes]
  | [], _ :: _ => by simp [Lib.compareBytes]
  | _ :: _, [] => by simp [Lib.compareBytes]
  | a :: x, b :: y => by
    have ih := cmpB_zero x y
    simp only [Lib.compareBytes, List.cons.injEq]
    by_cases h1 : a < b
    · have : a ≠ b := fun e => by subst e; exact absurd h1 (UInt8.lt_irrefl a)
      simp [h1, this]
    · by_cases h2 : b < a
      · have : a ≠ b := fun e => by subst e; exact absurd h2 (UInt8.lt_irrefl a)
        simp [h1, h2, this]
      · have : a = b := UInt8.le_antisymm (UInt8.not_lt.1 h2) (UInt8.not_lt.1 h1)
        simp [h1, h2, this, ih]
theorem cmpB_neg : ∀ (s u : Str), decide (Lib.compareBytes s u < 0) = Op.bytesLess s u
  | [], [] => by simp [Lib.compareBytes, Op.bytesLess]
  | [], _ :: _ => by simp [Lib.compareBytes, Op.bytesLess]
  | _ :: _, [] => by simp [Lib.compareBytes, Op.bytesLess]
  | a :: x, b :: y => by
    have ih := cmpB_neg x y
    simp only [Lib.compareBytes, Op.bytesLess]
    by_cases h1 : a < b
    · simp [h1]
    · by_cases h2 : b < a
      · have : a ≠ b := fun e => by subst e; exact absurd h2 (UInt8.lt_irrefl a)
        simp [h1, h2, this]
      · have : a = b := UInt8.le_antisymm (UInt8.not_lt.1 h2) (UInt8.not_lt.1 h1)
        simp [h1, h2, this, ← ih]
/-- A comparison that parts whatever two that are not one. -/
structure TotalCmp {α : Type} (F : α → α → Int) : Prop where
  flip : ∀ a b, F b a = - F a b
  zero : ∀ a b, F a b = 0 ↔ a = b
  trans : ∀ a b c, F a b < 0 → F b c < 0 → F a c < 0
theorem TotalCmp.irrefl {α : Type} {F : α → α → Int} (h : TotalCmp F) (a : α) : ¬ F a a < 0 := by rw [(h.zero a a).2 rfl]; omega
theorem TotalCmp.total {α : Type} {F : α → α → Int} (h : TotalCmp F) (a b : α) (h1 : ¬ F a b < 0) (h2 : ¬ F b a < 0) : a = b := by
  rw [h.flip a b] at h2; exact (h.zero a b).1 (by omega)
theorem TotalCmp.ntrans {α : Type} {F : α → α → Int} (h : TotalCmp F) (a b c : α) (h1 : ¬ F a b < 0) (h2 : ¬ F b c < 0) : ¬ F a c < 0 := by
  intro h3
  by_cases e1 : a = b
  · subst e1; exact h2 h3
  · by_cases e2 : b = c
    · subst e2; exact h1 h3
    · have f1 := h.flip a b
      have f2 := h.flip b c
      have n1 : F a b ≠ 0 := fun e => e1 ((h.zero _ _).1 e)
      have n2 : F b c ≠ 0 := fun e => e2 ((h.zero _ _).1 e)
      have := h.trans c b a (by omega) (by omega)
      have f3 := h.flip a c
      omega
theorem cmpF_total {α : Type} {F : α → α → Int} (h : TotalCmp F) : TotalCmp (cmpF F) where
  flip a b := by
    induction a generalizing b with
    | nil => cases b <;> rfl
    | cons x a ih =>
      cases b with
      | nil => rfl
      | cons y b =>
        simp only [cmpF, h.flip x y]
        by_cases e : F x y = 0
        · simp [e, ih]
        · have : ¬ (- F x y = 0) := by omega
          simp [e, this]
  zero a b := by
    induction a generalizing b with
    | nil => cases b <;> simp [cmpF]
    | cons x a ih =>
      cases b with
      | nil => simp [cmpF]
      | cons y b =>
        simp only [cmpF, List.cons.injEq]
        by_cases e : F x y = 0
        · have e' := (h.zero x y).1 e
          subst e'
          simp [e, ih]
        · have : x ≠ y := fun e' => e ((h.zero x y).2 e')
          simp [e, this]
  trans a b c := by
    induction a generalizing b c with
    | nil => cases b <;> cases c <;> simp [cmpF]
    | cons x a ih =>
      cases b with
      | nil => simp [cmpF]
      | cons y b =>
        cases c with
        | nil => intro _ h2; simp [cmpF] at h2
        | cons z c =>
          simp only [cmpF]
          by_cases e1 : F x y = 0
          · have := (h.zero x y).1 e1
            subst this
            by_cases e2 : F x z = 0
            · simp only [e1, e2, ne_eq, not_true, if_false]; exact ih b c
            · simp only [e1, e2, ne_eq, not_true, not_false_eq_true, if_false, if_true]; intro _ h2; exact h2
          · by_cases e2 : F y z = 0
            · have := (h.zero y z).1 e2
              subst this
              simp only [e1, e2, ne_eq, not_true, not_false_eq_true, if_false, if_true]; intro h1 _; exact h1
            · simp only [e1, e2, ne_eq, not_false_eq_true, if_true]
              intro h1 h2
              have h3 := h.trans x y z h1 h2
              rw [if_pos (by omega)]; exact h3
def cmp8 (a b : UInt8) : Int := if a < b then -1 else if b < a then 1 else 0
theorem cmp8_total : TotalCmp cmp8 where
  flip a b := by
    unfold cmp8
    by_cases h1 : a < b
    · have : ¬ b < a := fun h2 => UInt8.lt_irrefl a (UInt8.lt_trans h1 h2)
      simp [h1, this]
    · by_cases h2 : b < a <;> simp [h1, h2]
  zero a b := by
    unfold cmp8
    by_cases h1 : a < b
    · have : a ≠ b := fun e => by subst e; exact UInt8.lt_irrefl a h1
      simp [h1, this]
    · by_cases h2 : b < a
      · have : a ≠ b := fun e => by subst e; exact UInt8.lt_irrefl a h2
        simp [h1, h2, this]
      · have : a = b := UInt8.le_antisymm (UInt8.not_lt.1 h2) (UInt8.not_lt.1 h1)
        simp [this]
  trans a b c := by
    have key : ∀ a b, cmp8 a b < 0 ↔ a < b := fun a b => by
      unfold cmp8
      by_cases h1 : a < b
      · simp [h1]
      · by_cases h2 : b < a <;> simp [h1, h2]
    rw [key, key, key]; exact fun h1 h2 => UInt8.lt_trans h1 h2
theorem cmpB_eq : ∀ s u : Str, Lib.compareBytes s u = cmpF cmp8 s u
  | [], [] => rfl
  | [], _ :: _ => rfl
  | _ :: _, [] => rfl
  | a :: x, b :: y => by
    have ih := cmpB_eq x y
    simp only [Lib.compareBytes, cmpF, cmp8, ih]
    by_cases h1 : a < b
    · simp [h1]
    · by_cases h2 : b < a <;> simp [h1, h2]
theorem cmpB_total : TotalCmp Lib.compareBytes := by
  have : Lib.compareBytes = cmpF cmp8 := funext fun s => funext fun u => cmpB_eq s u
  rw [this]; exact cmpF_total cmp8_total
theorem cmpB_vals : ∀ s u : Str, Lib.compareBytes s u = -1 ∨ Lib.compareBytes s u = 0 ∨ Lib.compareBytes s u = 1
  | [], [] => by simp [Lib.compareBytes]
  | [], _ :: _ => by simp [Lib.compareBytes]
  | _ :: _, [] => by simp [Lib.compareBytes]
  | a :: x, b :: y => by
    have ih := cmpB_vals x y
    simp only [Lib.compareBytes]
    by_cases h1 : a < b
    · simp [h1]
    · by_cases h2 : b < a
      · simp [h1, h2]
      · simp only [h1, h2, if_false]; exact ih
end Go.DS

/-
  Instances, sets of them: plain.
-/
namespace Go.DS
open Go
set_option linter.unusedVariables false
/-- An instance: its epoch, its node, its number. -/
structure Id where
  e : Int
  n : Int
  k : Int
  deriving DecidableEq
abbrev idL (x : Id) : List DV := [num x.e, num x.n, num x.k]
def idr (l : List Id) : List (List DV) := l.map fun x => [num x.e, num x.n, num x.k]
@[go_sem] theorem idr_len (l : List Id) : (idr l).length = l.length := by simp [idr]
@[go_sem] theorem idr_app (l m : List Id) : idr l ++ idr m = idr (l ++ m) := by simp [idr]
@[go_sem] theorem idr_snoc (l : List Id) (a b c : Int) : idr l ++ [[.sc (.int .i64 a), .sc (.int .i64 b), .sc (.int .i64 c)]] = idr (l ++ [⟨a, b, c⟩]) := by simp [idr]
@[go_sem high] theorem idxP_idr (l : List Id) (i : Int) (N : List DV → Prop) : IdxP (idr l) i N = IdxP l i fun x => N [num x.e, num x.n, num x.k] := idxP_map
theorem free_idr : ∀ l : List Id, heapFree.alls (idr l) = true
  | [] => rfl
  | s :: l => by
    have := free_idr l
    simp only [idr] at this
    simp only [idr, List.map_cons, heapFree.alls, heapFree.all, heapFree, this, Bool.and_self]
theorem below_idr (n : Nat) : ∀ l : List Id, below.alls n (idr l) = true
  | [] => rfl
  | s :: l => by
    have := below_idr n l
    simp only [idr] at this
    simp only [idr, List.map_cons, below.alls, below.all, below, this, Bool.and_self]
def cmpI (a b : Int) : Int := if a < b then -1 else if b < a then 1 else 0
/-- Which of two instances comes first. -/
def ordI (a b : Id) : Int := if cmpI a.e b.e ≠ 0 then cmpI a.e b.e else if cmpI a.k b.k ≠ 0 then cmpI a.k b.k else cmpI a.n b.n
theorem cmpI_total : TotalCmp cmpI where
  flip a b := by
    unfold cmpI
    repeat' split
    all_goals omega
  zero a b := by
    unfold cmpI
    repeat' split
    all_goals omega
  trans a b c := by
    unfold cmpI
    repeat' split
    all_goals omega
theorem ordI_lt {a b : Id} : ordI a b < 0 ↔ a.e < b.e ∨ a.e = b.e ∧ (a.k < b.k ∨ a.k = b.k ∧ a.n < b.n) := by
  unfold ordI cmpI
  repeat' split
  all_goals omega
theorem ordI_zero {a b : Id} : ordI a b = 0 ↔ a = b := by
  obtain ⟨a1, a2, a3⟩ := a
  obtain ⟨b1, b2, b3⟩ := b
  simp only [Id.mk.injEq]
  unfold ordI cmpI
  simp only
  repeat' split
  all_goals omega
theorem ordI_total : TotalCmp ordI where
  flip a b := by
    unfold ordI
    rw [cmpI_total.flip a.e b.e, cmpI_total.flip a.k b.k, cmpI_total.flip a.n b.n]
    repeat' split
    all_goals omega
  zero a b := ordI_zero
  trans a b c := by rw [ordI_lt, ordI_lt, ordI_lt]; omega
def insI (x : Id) (l : List Id) : List Id := if x ∈ l then l else l ++ [x]
/-- Each once. -/
def setOf (l : List Id) : List Id := l.foldl (fun m x => insI x m) []
theorem setOf_snoc (l : List Id) (x : Id) : setOf (l ++ [x]) = insI x (setOf l) := by simp [setOf]
theorem mem_insI {x y : Id} {l : List Id} : y ∈ insI x l ↔ y = x ∨ y ∈ l := by
  unfold insI
  split
  · rename_i h
    constructor
    · exact .inr
    · rintro (rfl | h')
      · exact h
      · exact h'
  · simp [or_comm]
theorem nodup_insI {x : Id} {l : List Id} (h : l.Nodup) : (insI x l).Nodup := by
  unfold insI
  split
  · exact h
  · rename_i hx
    rw [List.nodup_append]
    exact ⟨h, by simp, fun a ha b hb => by rw [List.mem_singleton.1 hb]; exact fun e => hx (e ▸ ha)⟩
theorem setOf_go (l m : List Id) (hm : m.Nodup) : (l.foldl (fun m x => insI x m) m).Nodup ∧ (∀ y, y ∈ l.foldl (fun m x => insI x m) m ↔ y ∈ m ∨ y ∈ l) ∧ (l.foldl (fun m x => insI x m) m).length ≤ m.length + l.length := by
  induction l generalizing m with
  | nil => exact ⟨hm, by simp, by simp⟩
  | cons x l ih =>
    obtain ⟨h1, h2, h3⟩ := ih (insI x m) (nodup_insI hm)
    refine ⟨h1, fun y => ?_, ?_⟩
    · rw [List.foldl_cons, h2, mem_insI, List.mem_cons]
      constructor
      · rintro ((h | h) | h)
        · exact .inr (.inl h)
        · exact .inl h
        · exact .inr (.inr h)
      · rintro (h | h | h)
        · exact .inl (.inr h)
        · exact .inl (.inl h)
        · exact .inr h
    · rw [List.foldl_cons]
      have : (insI x m).length ≤ m.length + 1 := by unfold insI; split <;> simp
      simp only [List.length_cons]; omega
theorem setOf_nodup (l : List Id) : (setOf l).Nodup := (setOf_go l [] (by simp)).1
theorem mem_setOf {l : List Id} {y : Id} : y ∈ setOf l ↔ y ∈ l := by have := (setOf_go l [] (by simp)).2.1 y; simpa [setOf] using this
theorem setOf_len (l : List Id) : (setOf l).length ≤ l.length := by have := (setOf_go l [] (by simp)).2.2; simpa [setOf] using this
def sortD (l : List Id) : List Id := l.mergeSort fun x y => !decide (ordI y x < 0)
theorem sortD_mem {l : List Id} {x : Id} : x ∈ sortD l ↔ x ∈ l := (List.mergeSort_perm l _).mem_iff
theorem sortD_len (l : List Id) : (sortD l).length = l.length := by simp [sortD, List.length_mergeSort]
theorem sortD_pw (l : List Id) : (sortD l).Pairwise fun a b => ¬ ordI b a < 0 := by
  have := List.pairwise_mergeSort (le := fun x y : Id => !decide (ordI y x < 0)) (fun a b c h1 h2 => by
    simp only [Bool.not_eq_true', decide_eq_false_iff_not] at *
    exact ordI_total.ntrans c b a h2 h1) (fun a b => by
    by_cases h1 : ordI b a < 0
    · by_cases h2 : ordI a b < 0
      · exact absurd (ordI_total.trans a b a h2 h1) (ordI_total.irrefl a)
      · simp [h2]
    · simp [h1]) l
  exact this.imp fun h => by simpa using h
/-- Rising. -/
def Rises (l : List Id) : Prop := l.Pairwise fun a b => ordI a b < 0
theorem sortD_rises {l : List Id} (h : l.Nodup) : Rises (sortD l) := by
  have h2 : (sortD l).Nodup := (List.mergeSort_perm l _).nodup_iff.2 h
  refine ((sortD_pw l).and h2).imp fun {a b} ⟨h1, h3⟩ => ?_
  exact Decidable.byContradiction fun h4 => h3 (ordI_total.total a b h4 h1)
theorem rises_nodup {l : List Id} (h : Rises l) : l.Nodup := h.imp fun {a b} h1 e => by subst e; exact ordI_total.irrefl a h1
theorem rises_eq {l m : List Id} (hl : Rises l) (hm : Rises m) (h : ∀ x, x ∈ l ↔ x ∈ m) : l = m := by
  have hp : l.Perm m := by rw [List.perm_ext_iff_of_nodup (rises_nodup hl) (rises_nodup hm)]; exact h
  refine List.Perm.eq_of_pairwise (fun a b _ _ h1 h2 => ?_) hl hm hp
  exact absurd (ordI_total.trans a b a h1 h2) (ordI_total.irrefl a)
theorem sortD_perm {l m : List Id} (h : l.Perm m) : sortD l = sortD m :=
  List.Perm.eq_of_pairwise (fun a b _ _ h1 h2 => ordI_total.total a b h2 h1) (sortD_pw l) (sortD_pw m) ((List.mergeSort_perm l _).trans (h.trans (List.mergeSort_perm m _).symm))
/-- The set of a list. -/
def cleanP (l : List Id) : List Id := sortD (setOf l)
theorem clean_mem {l : List Id} {x : Id} : x ∈ cleanP l ↔ x ∈ l := by unfold cleanP; rw [sortD_mem, mem_setOf]
theorem clean_rises (l : List Id) : Rises (cleanP l) := sortD_rises (setOf_nodup l)
theorem clean_len (l : List Id) : (cleanP l).length ≤ l.length := by unfold cleanP; rw [sortD_len]; exact setOf_len l
theorem clean_congr {l m : List Id} (h : ∀ x, x ∈ l ↔ x ∈ m) : cleanP l = cleanP m := rises_eq (clean_rises l) (clean_rises m) fun x => by rw [clean_mem, clean_mem, h]
theorem clean_self {l : List Id} (h : Rises l) : cleanP l = l := rises_eq (clean_rises l) h fun x => clean_mem
def sameP (a b : List Id) : Bool := decide ((∀ x ∈ a, x ∈ b) ∧ ∀ x ∈ b, x ∈ a)
theorem sameP_iff {a b : List Id} : sameP a b = true ↔ ∀ x, x ∈ a ↔ x ∈ b := by
  simp only [sameP, decide_eq_true_eq]
  exact ⟨fun h x => ⟨h.1 x, h.2 x⟩, fun h => ⟨fun x hx => (h x).1 hx, fun x hx => (h x).2 hx⟩⟩
def lessI (a b : Id) : Bool := decide (ordI a b < 0)
def rightI : List Id → Bool
  | [] => true
  | [_] => true
  | a :: b :: l => lessI a b && rightI (b :: l)
theorem rightI_iff : ∀ l : List Id, rightI l = true ↔ Rises l
  | [] => by simp [rightI, Rises]
  | [a] => by simp [rightI, Rises]
  | a :: b :: l => by
    have ih := rightI_iff (b :: l)
    simp only [rightI, Bool.and_eq_true, ih, lessI, decide_eq_true_eq]
    unfold Rises
    rw [List.pairwise_cons (a := a)]
    constructor
    · rintro ⟨h1, h2⟩
      refine ⟨fun x hx => ?_, h2⟩
      rcases List.mem_cons.1 hx with rfl | hx
      · exact h1
      · exact ordI_total.trans a b x h1 ((List.pairwise_cons.1 h2).1 x hx)
    · rintro ⟨h1, h2⟩
      exact ⟨h1 b List.mem_cons_self, h2⟩
def validI (x : Id) : Bool := decide (0 ≤ x.e) && decide (x.e ≤ 1048576) && (decide (0 ≤ x.n) && decide (x.n ≤ 31)) && (decide (0 ≤ x.k) && decide (x.k ≤ 1099511627776))
end Go.DS

/-
  Functions of the library over sets of instances, told by proofs of their own.
-/
namespace Go.DS
open Go
set_option linter.unusedVariables false
/-- What is asked of the order of instances. -/
structure OrdIOK (P : Program) (o : FuncId) : Prop where
  callee : calleeOK P o = true
  call : ∀ a b : Id, @CallOK ⟨true⟩ P o [.agg [num a.e, num a.n, num a.k], .agg [num b.e, num b.n, num b.k]] [] (num (ordI a b)) []
def keyD : DV → Id
  | .agg [.sc (.int _ a), .sc (.int _ b), .sc (.int _ c)] => ⟨a, b, c⟩
  | _ => ⟨0, 0, 0⟩
abbrev idDV (x : Id) : DV := .agg [num x.e, num x.n, num x.k]
structure KeysDOK (es : List (DV × DV)) (ks : List Id) : Prop where
  keys : es.map (·.1) = ks.map idDV
  nodup : ks.Nodup
  len : ks.length ≤ 1048576
/-- A set of instances, as a map. -/
def setD (l : List Id) : List (DV × DV) := l.map fun x => (.agg [num x.e, num x.n, num x.k], .sc (.bool true))
open Classical in
/-- slices.SortedFunc of maps.Keys, of instances. -/
noncomputable def keysDF (P : Program) (k1 o : FuncId) : List DV → DHeap → Option (DV × DHeap)
  | [.fn (.func a) [] [.ptr i 0], .fn (.func b) [] []], h => match h[i]? with
    | some (.cells [.mp j]) => match h[j]? with
      | some (.map es) => if a = k1 ∧ b = o ∧ KeysDOK es (es.map fun e => keyD e.1) ∧ OrdIOK P o then some (.list true 3 (idr (sortD (es.map fun e => keyD e.1))), h) else none
      | _ => none
    | _ => none
  | _, _ => none
open Classical in
/-- maps.Equal of two sets. -/
noncomputable def equalDF : List DV → DHeap → Option (DV × DHeap)
  | [.mp i, .mp j], h => match h[i]?, h[j]? with
    | some (.map es), some (.map fs) => if KeysDOK es (es.map fun e => keyD e.1) ∧ KeysDOK fs (fs.map fun e => keyD e.1) ∧ es = setD (es.map fun e => keyD e.1) ∧ fs = setD (fs.map fun e => keyD e.1) then some (.sc (.bool (sameP (es.map fun e => keyD e.1) (fs.map fun e => keyD e.1))), h) else none
    | _, _ => none
  | _, _ => none
end Go.DS

/-
  The settings of the evaluator for this program.
-/
namespace Go.DS
open Go Go.Proofs
set_option maxRecDepth 100000
set_option linter.unusedVariables false
def xferT : List (Nat × List Nat) := [(3, [11, 40]), (4, [23, 38, 44]), (5, [45, 124]), (6, [30]), (7, [30]), (8, [31]), (9, [8, 10]), (10, [19, 25]), (14, [42]), (15, [2]), (18, [11, 14, 18, 27, 29, 65]), (20, [16, 17, 38]), (23, [0]), (26, [18, 22]), (27, [10, 45]), (28, [11, 30]), (29, [13]), (32, [7]), (34, [5]), (37, [6]), (38, [12, 14, 66]), (39, [16, 17, 37]), (40, [8]), (46, [10]), (52, [17]), (54, [10]), (58, [2]), (62, [7, 14]), (65, [5, 8]), (66, [9, 12, 14, 17]), (68, [11]), (73, [9]), (74, [7, 42]), (75, [19]), (79, [12, 17]), (80, [14, 20, 25]), (83, [9, 12, 14, 17]), (84, [11, 28, 32, 41, 45]), (92, [5]), (93, [5, 8, 10]), (94, [12, 15, 25, 47]), (95, [15, 17, 25, 32]), (97, [5, 8, 10]), (98, [19, 44, 68]), (101, [9]), (102, [8, 12]), (103, [42, 47, 93, 94, 100, 102, 133]), (105, [13, 14, 21]), (106, [14, 30, 31, 35]), (109, [19, 21, 25]), (111, [11]), (113, [4]), (114, [2, 3, 10]), (117, [15, 20, 27]), (118, [9]), (120, [9]), (123, [12]), (124, [2]), (125, [8, 12]), (126, [47, 53, 104, 105, 112, 114, 147]), (127, [15, 42, 46]), (128, [11, 44, 48]), (129, [58, 62]), (130, [50, 53, 56]), (131, [8, 21, 25]), (132, [51, 55, 88, 92, 126, 130]), (134, [18, 22, 72, 76, 83]), (135, [19, 23, 73, 77, 80, 88, 92, 142, 146, 160, 164, 167]), (138, [26]), (139, [10, 17]), (140, [10, 17]), (143, [9]), (144, [11, 15, 17]), (146, [13, 17]), (147, [11, 18, 20]), (148, [14]), (150, [10]), (154, [4, 27]), (155, [17, 46, 50]), (156, [13, 47, 51]), (157, [60, 64]), (158, [56, 59, 62]), (159, [10, 23, 27]), (160, [55, 59, 94, 98, 134, 138]), (161, [20, 24, 78, 82, 89]), (162, [21, 25, 79, 83, 86, 94, 98, 152, 156, 170, 174, 177]), (163, [10, 66, 72, 75]), (165, [32]), (167, [11, 17, 19, 25, 27, 33, 35]), (169, [8, 12]), (170, [47, 53, 104, 105, 112, 114, 147]), (171, [30]), (172, [16, 29, 33]), (179, [12, 72, 78, 81]), (181, [13, 20, 22, 29, 31, 38, 40]), (182, [24, 25, 26, 27]), (183, [17, 46, 50]), (184, [13, 47, 51]), (185, [60, 64]), (186, [56, 59, 62]), (187, [10, 23, 27]), (188, [55, 59, 94, 98, 134, 138]), (189, [20, 24, 78, 82, 89]), (190, [21, 25, 79, 83, 86, 94, 98, 152, 156, 170, 174, 177]), (192, [28, 29, 30, 31]), (193, [12, 72, 78, 81]), (195, [13, 20, 22, 29, 31, 38, 40]), (196, [28, 29, 30, 31])]
def escT : List (Nat × List Nat) := [(13, [4]), (15, [14]), (18, [22]), (31, [3]), (35, [9]), (41, [1]), (69, [1]), (98, [8]), (112, [1]), (129, [7]), (130, [9]), (143, [3]), (157, [9]), (158, [11]), (185, [9]), (186, [11])]
def keepT : List (Nat × List (Nat × List Nat)) := [
(2, [(0, [])]),
(3, [(0, [0, 2, 4, 10, 14]), (1, [0, 2, 4, 7, 10, 14]), (2, [0, 2, 4, 7, 10, 14, 18]), (3, [4, 6, 10, 14]), (4, [0, 2, 4, 7, 10, 14, 39]), (5, [4, 6, 10, 14]), (6, [0, 2, 4, 7, 8, 10, 14]), (7, [0, 2, 4, 7, 8, 9, 10, 14]), (8, [0, 2, 4, 7, 8, 9, 10, 14, 45]), (9, [0, 2, 4, 7, 8, 9, 10, 14]), (10, [0, 2, 4, 7, 8, 9, 10, 14]), (11, [2, 4, 7, 8, 10, 14]), (12, [2, 4, 7, 8, 10, 11, 14]), (13, [2, 4, 7, 8, 10, 11, 12, 14]), (14, [2, 4, 7, 8, 10, 11, 12, 14, 65]), (15, [2, 4, 7, 8, 10, 11, 12, 14]), (16, [2, 4, 7, 8, 10, 11, 12, 14]), (17, [2, 4, 7, 8, 10, 11, 12, 14]), (18, [4, 7, 8, 10, 11, 13, 14]), (19, [4, 7, 8, 10, 11, 13, 14]), (20, [4, 7, 8, 10, 11, 13, 14, 15]), (21, [4, 7, 8, 10, 13, 14, 15, 120]), (22, [4, 6, 10, 14]), (23, [4, 6, 10, 14]), (100008, [0, 2, 4, 7, 8, 9, 10, 14]), (100014, [2, 4, 7, 8, 10, 11, 12, 14])]),
(4, [(0, [0, 1, 11, 12]), (1, [0, 1, 5, 11, 12]), (2, [0, 1, 5, 11, 12, 16]), (3, [4, 11, 12]), (4, [0, 1, 5, 11, 12, 22]), (5, [4, 11, 12]), (6, [0, 1, 5, 6, 11, 12]), (7, [0, 1, 5, 6, 7, 11, 12]), (8, [0, 1, 5, 6, 7, 11, 12, 28]), (9, [0, 1, 5, 6, 7, 11, 12]), (10, [0, 1, 5, 6, 7, 11, 12]), (11, [1, 5, 6, 8, 9, 11, 12]), (12, [1, 5, 6, 8, 11, 12, 53]), (13, [4, 11, 12]), (14, [1, 5, 6, 8, 10, 11, 12]), (15, [1, 5, 6, 8, 10, 11, 12, 57]), (16, [1, 5, 6, 8, 10, 11, 12]), (17, [1, 5, 6, 8, 10, 11, 12]), (18, [1, 5, 6, 8, 10, 11, 12]), (19, [1, 5, 6, 8, 10, 11, 12, 13]), (20, [1, 5, 6, 8, 10, 11, 12, 78]), (21, [4, 11, 12]), (22, [4, 11, 12]), (100008, [0, 1, 5, 6, 7, 11, 12]), (100015, [1, 5, 6, 8, 10, 11, 12])]),
(5, [(0, [0, 4, 5, 12, 13]), (1, [0, 4, 5, 7, 12, 13]), (2, [0, 4, 5, 7, 12, 13, 19]), (3, [4, 5, 6, 12, 13]), (4, [0, 4, 5, 7, 12, 13, 44]), (5, [4, 5, 6, 12, 13]), (6, [0, 4, 5, 7, 8, 12, 13]), (7, [0, 4, 5, 7, 8, 9, 12, 13]), (8, [0, 4, 5, 7, 8, 9, 10, 12, 13]), (9, [0, 4, 5, 7, 8, 9, 10, 12, 13, 50]), (10, [0, 4, 5, 7, 8, 9, 10, 12, 13]), (11, [0, 4, 5, 7, 8, 9, 10, 12, 13]), (12, [0, 4, 5, 7, 8, 9, 10, 12, 13, 82]), (13, [0, 4, 5, 7, 8, 9, 10, 12, 13]), (14, [4, 5, 7, 8, 9, 11, 12, 13]), (15, [4, 5, 7, 8, 9, 11, 12, 13]), (16, [4, 5, 7, 8, 9, 11, 12, 13]), (17, [4, 5, 7, 8, 9, 12, 13]), (18, [4, 5, 7, 9, 12, 13, 14]), (19, [4, 5, 7, 9, 12, 13, 14, 15]), (20, [4, 5, 7, 9, 12, 13, 14, 15, 16]), (21, [4, 5, 7, 9, 12, 13, 14, 15, 16, 109]), (22, [4, 5, 7, 9, 12, 13, 14, 15, 16]), (23, [4, 5, 7, 9, 12, 13, 14, 15, 16, 119]), (24, [4, 5, 7, 9, 12, 13, 14, 15, 16]), (25, [4, 5, 6, 12, 13]), (100009, [0, 4, 5, 7, 8, 9, 10, 12, 13]), (100021, [4, 5, 7, 9, 12, 13, 14, 15, 16])]),
(6, [(0, [0, 3, 9, 10]), (1, [0, 3, 5, 9, 10]), (2, [0, 3, 5, 9, 10, 13]), (3, [3, 4, 9, 10]), (4, [0, 3, 5, 9, 10, 29]), (5, [3, 4, 9, 10]), (6, [0, 3, 5, 6, 9, 10]), (7, [0, 3, 5, 6, 7, 9, 10]), (8, [0, 3, 5, 6, 7, 9, 10, 35]), (9, [0, 3, 5, 6, 7, 9, 10]), (10, [0, 3, 5, 6, 7, 9, 10]), (11, [3, 5, 6, 8, 9, 10]), (12, [3, 5, 6, 8, 9, 10]), (13, [3, 5, 6, 8, 9, 10]), (14, [3, 5, 6, 8, 9, 10, 54]), (15, [3, 5, 6, 8, 9, 10]), (16, [3, 4, 9, 10]), (100008, [0, 3, 5, 6, 7, 9, 10])]),
(7, [(0, [0, 1, 2, 10, 12, 15]), (1, [0, 1, 2, 7, 10, 12, 15]), (2, [0, 1, 2, 7, 10, 12, 15, 18]), (3, [6, 10, 12, 15]), (4, [0, 1, 2, 7, 10, 12, 15, 29]), (5, [6, 10, 12, 15]), (6, [0, 1, 2, 7, 8, 10, 12, 15]), (7, [0, 1, 2, 7, 8, 9, 10, 12, 15]), (8, [0, 1, 2, 7, 8, 9, 10, 12, 15, 35]), (9, [0, 1, 2, 7, 8, 9, 10, 12, 15]), (10, [0, 1, 2, 7, 8, 9, 10, 12, 15, 43]), (11, [0, 1, 2, 7, 8, 9, 10, 12, 15]), (12, [1, 2, 7, 8, 10, 12, 15]), (13, [1, 2, 7, 8, 10, 11, 12, 15]), (14, [1, 2, 7, 8, 10, 11, 12, 15]), (15, [1, 2, 7, 8, 10, 11, 12, 15, 63]), (16, [6, 10, 12, 15]), (17, [1, 2, 7, 8, 10, 11, 12, 13, 15]), (18, [1, 2, 7, 8, 10, 11, 12, 13, 15, 67]), (19, [1, 2, 7, 8, 10, 11, 12, 13, 15]), (20, [1, 2, 7, 8, 10, 11, 12, 13, 15, 101]), (21, [6, 10, 12, 15]), (22, [2, 7, 8, 10, 12, 14, 15]), (23, [2, 7, 8, 10, 12, 14, 15, 105]), (24, [2, 7, 8, 10, 12, 14, 15]), (25, [2, 7, 8, 10, 12, 14, 15, 113]), (26, [2, 7, 8, 10, 12, 14, 15]), (27, [7, 10, 12, 15]), (28, [6, 10, 12, 15]), (100008, [0, 1, 2, 7, 8, 9, 10, 12, 15]), (100018, [1, 2, 7, 8, 10, 11, 12, 13, 15]), (100023, [2, 7, 8, 10, 12, 14, 15])]),
(8, [(0, [0, 4, 5, 11, 12, 13, 14]), (1, [0, 4, 5, 7, 11, 12, 13, 14]), (2, [0, 4, 5, 7, 11, 12, 13, 14, 17]), (3, [4, 5, 6, 11, 12, 13, 14]), (4, [0, 4, 5, 7, 11, 12, 13, 14, 30]), (5, [4, 5, 6, 11, 12, 13, 14]), (6, [0, 4, 5, 7, 8, 11, 12, 13, 14]), (7, [0, 4, 5, 7, 8, 9, 11, 12, 13, 14]), (8, [0, 4, 5, 7, 8, 9, 11, 12, 13, 14, 36]), (9, [0, 4, 5, 7, 8, 9, 11, 12, 13, 14]), (10, [0, 4, 5, 7, 8, 9, 11, 12, 13, 14]), (11, [4, 5, 7, 8, 10, 11, 12, 13, 14]), (12, [4, 5, 7, 8, 10, 11, 12, 13, 14, 49]), (13, [4, 5, 6, 11, 12, 13, 14]), (14, [4, 5, 7, 8, 10, 11, 12, 13, 14]), (15, [4, 5, 7, 8, 10, 11, 12, 13, 14]), (16, [4, 5, 7, 8, 10, 11, 12, 13, 14]), (17, [4, 5, 7, 8, 10, 11, 12, 13, 14]), (18, [4, 5, 6, 11, 12, 13, 14]), (100008, [0, 4, 5, 7, 8, 9, 11, 12, 13, 14])]),
(9, [(0, [0, 5, 6, 7]), (1, [0, 5, 6, 7, 9]), (2, [0, 5, 6, 7, 9, 13]), (3, [5, 6, 7, 8]), (4, [0, 5, 6, 7, 9, 27]), (5, [5, 6, 7, 8]), (6, [5, 6, 7, 9, 10]), (7, [5, 6, 7, 8])]),
(10, [(0, [2, 3, 4]), (1, [1, 2, 3, 4]), (2, [1, 2, 3, 4, 9]), (3, [0, 2, 3, 4]), (4, [1, 2, 3, 4]), (5, [1, 2, 3, 4]), (6, [1, 2, 3, 4]), (7, [1, 2, 3, 4, 5, 6]), (8, [0, 2, 3, 4])]),
(11, [(0, [0]), (1, [0, 3]), (2, [0, 3, 11]), (3, [0, 3]), (4, [0, 3, 29]), (5, [2]), (6, [2]), (100002, [0, 3])]),
(12, [(0, [1]), (1, [1, 2])]),
(13, [(0, [4]), (1, [0, 4])]),
(14, [(0, [0, 4, 5, 6, 7, 8]), (1, [0, 4, 5, 6, 7, 8, 9]), (2, [4, 5, 6, 7, 8]), (3, [0, 4, 5, 6, 7, 8, 14]), (4, [4, 5, 6, 7, 8]), (5, [0, 4, 5, 6, 7, 8]), (6, [0, 4, 5, 6, 7, 8, 26]), (7, [4, 5, 6, 7, 8]), (8, [0, 4, 5, 6, 7, 8, 33]), (9, [4, 5, 6, 7, 8]), (10, [0, 4, 5, 6, 7, 8]), (11, [0, 4, 5, 6, 7, 8, 45]), (12, [0, 4, 5, 6, 7, 8]), (13, [4, 5, 6, 7, 8]), (14, [4, 5, 6, 7, 8])]),
(15, [(0, [0, 14]), (1, [2, 14])]),
(16, [(0, [2, 3]), (1, [2, 3, 33]), (2, [2, 3, 4]), (3, [2, 3, 5]), (4, [2, 3, 5, 38]), (5, [2, 3, 5]), (6, [2, 3, 5, 51]), (7, [2, 3, 4]), (8, [2, 3, 4]), (100004, [2, 3, 5])]),
(17, [(0, [0, 1]), (1, [4])]),
(18, [(0, [0, 1, 10, 22]), (1, [1, 6, 7, 10, 22]), (2, [1, 6, 7, 10, 17, 22]), (3, [4, 5, 10, 22]), (4, [1, 8, 10, 22]), (5, [1, 8, 10, 22, 23, 24, 25]), (6, [1, 8, 10, 22, 23, 24, 25, 26]), (7, [1, 8, 9, 10, 22, 23, 24, 25]), (8, [1, 8, 10, 22, 23, 24, 25, 51]), (9, [4, 5, 10, 22]), (10, [1, 8, 10, 22, 23, 24, 25]), (11, [1, 8, 10, 22, 23, 24, 25]), (12, [4, 5, 10, 22]), (100006, [1, 8, 10, 22, 23, 24, 25])]),
(19, [(0, [0]), (1, [2])]),
(20, [(0, [0]), (1, [0, 3]), (2, [0, 3, 11, 12, 13]), (3, [0, 3, 11, 12, 13, 14]), (4, [0, 3, 5, 11, 12, 13]), (5, [0, 3, 11, 12, 13]), (6, [0, 3, 11, 12, 13]), (7, [2]), (100003, [0, 3, 11, 12, 13])]),
(21, [(0, [0, 1]), (1, [0, 1, 10]), (2, [4]), (3, [0, 1, 5]), (4, [0, 1, 5, 14]), (5, [0, 1, 5]), (6, [0, 1, 5, 25]), (7, [4]), (8, [4]), (100004, [0, 1, 5])]),
(22, [(0, [2, 3]), (1, [2, 3, 5]), (2, [2, 3, 4]), (3, [2, 3, 14]), (4, [2, 3, 4]), (5, [2, 3, 4])]),
(23, [(0, [1, 2, 3, 4, 5, 6]), (1, [1, 2, 3, 4, 5, 6]), (2, [1, 2, 3, 4, 5, 6]), (3, [1, 2, 3, 4, 5, 6]), (4, [1, 2, 3, 4, 5, 6]), (5, [1, 2, 3, 4, 5, 6]), (6, [1, 2, 3, 4, 5, 6]), (7, [0, 1, 2, 3, 4, 5, 6])]),
(24, [(0, [0]), (1, [0, 3]), (2, [0, 3, 11]), (3, [0, 3]), (4, [0, 3, 39]), (5, [2]), (6, [2]), (100002, [0, 3])]),
(25, [(0, [2, 3]), (1, [2, 3, 4])]),
(26, [(0, [0, 4, 5, 6, 11]), (1, [0, 4, 5, 6, 7, 11]), (2, [0, 4, 5, 6, 7, 8, 11]), (3, [0, 4, 5, 6, 7, 8, 9, 11]), (4, [4, 5, 6, 7, 8, 9, 11, 13, 14, 15]), (5, [4, 5, 6, 7, 8, 9, 11, 13, 14, 15, 16]), (6, [4, 5, 6, 7, 8, 9, 11, 13, 14, 15]), (7, [4, 5, 6, 7, 8, 9, 11, 13, 14, 15, 21]), (8, [4, 5, 6, 7, 8, 9, 11, 13, 14, 15]), (9, [4, 5, 6, 7, 8, 9, 11, 13, 14, 15]), (10, [4, 5, 6, 7, 8, 9, 11, 13, 14, 15]), (11, [4, 5, 6, 11]), (100005, [4, 5, 6, 7, 8, 9, 11, 13, 14, 15])]),
(27, [(0, [0, 4, 5, 6]), (1, [0, 4, 5, 6, 7]), (2, [0, 4, 5, 6, 7, 8]), (3, [0, 4, 5, 6, 7, 8, 9]), (4, [0, 4, 5, 6, 7, 8, 9, 14]), (5, [0, 4, 5, 6, 7, 8, 9]), (6, [0, 4, 5, 6, 7, 8, 9, 10]), (7, [0, 4, 5, 6, 7, 8, 9, 44]), (8, [0, 4, 5, 6, 7, 8, 9]), (9, [0, 4, 5, 6, 7, 8, 9]), (10, [4, 5, 6]), (100004, [0, 4, 5, 6, 7, 8, 9])]),
(28, [(0, [0]), (1, [0, 3]), (2, [0, 3, 4]), (3, [0, 3, 4, 8]), (4, [0, 3, 4]), (5, [0, 3, 4]), (6, [2]), (100003, [0, 3, 4])]),
(29, [(0, [2, 3, 6]), (1, [2, 3, 6, 8, 9, 10]), (2, [2, 3, 6, 8, 9, 10, 11]), (3, [2, 3, 6, 8, 9, 10]), (4, [2, 3, 6, 8, 9, 10, 28]), (5, [2, 3, 4, 6]), (6, [2, 3, 6, 8, 9, 10]), (7, [2, 3, 4, 6]), (100002, [2, 3, 6, 8, 9, 10])]),
(30, [(0, [2, 3]), (1, [2, 3, 5]), (2, [2, 3, 5, 10]), (3, [2, 3, 5]), (4, [2, 3, 5, 39]), (5, [2, 3, 4]), (6, [2, 3, 4]), (100002, [2, 3, 5])]),
(31, [(0, [3]), (1, [0, 3])]),
(32, [(0, [1, 2]), (1, [1, 2]), (2, [1, 2])]),
(33, [(0, [1]), (1, [1, 2])]),
(34, [(0, [0, 3, 4]), (1, [0, 3, 4, 5]), (2, [0, 3, 4, 5, 10]), (3, [3, 4]), (4, [0, 3, 4, 5, 24]), (5, [3, 4]), (6, [0, 3, 4, 5, 30]), (7, [3, 4]), (8, [3, 4])]),
(35, [(0, [0, 9]), (1, [2, 9])]),
(36, [(0, [0]), (1, [0, 4]), (2, [2]), (3, [2])]),
(37, [(0, [0, 1]), (1, [0, 1, 11]), (2, [4]), (3, [0, 1, 5]), (4, [0, 1, 5, 15]), (5, [0, 1, 5]), (6, [0, 1, 5, 6]), (7, [0, 1, 5, 56]), (8, [4]), (9, [4]), (100004, [0, 1, 5])]),
(38, [(0, [0, 6]), (1, [0, 4, 6]), (2, [0, 4, 6, 8, 9, 10]), (3, [0, 4, 6, 8, 9, 10, 11]), (4, [0, 4, 5, 6, 8, 9, 10]), (5, [0, 4, 6, 8, 9, 10, 53]), (6, [2, 3, 6]), (7, [0, 4, 6, 8, 9, 10]), (8, [0, 4, 6, 8, 9, 10]), (9, [2, 3, 6]), (100003, [0, 4, 6, 8, 9, 10])]),
(39, [(0, [0]), (1, [0, 3]), (2, [0, 3, 11, 12, 13]), (3, [0, 3, 11, 12, 13, 14]), (4, [0, 3, 5, 11, 12, 13]), (5, [0, 3, 11, 12, 13]), (6, [0, 3, 11, 12, 13]), (7, [2]), (100003, [0, 3, 11, 12, 13])]),
(40, [(0, [0]), (1, [3]), (2, [3]), (3, [2])]),
(41, [(0, [1]), (1, [1, 2])]),
(42, [(0, [2, 3, 5, 6]), (1, [2, 3, 5, 6]), (2, [2, 3, 4, 5, 6])]),
(43, [(0, [2, 3, 4]), (1, [2, 3, 4])]),
(44, [(0, [2, 3]), (1, [2, 3, 4])]),
(45, [(0, [2, 3]), (1, [2, 3, 4])]),
(46, [(0, [0, 4]), (1, [0, 4, 5, 6, 7]), (2, [0, 4, 5, 6, 7, 8]), (3, [0, 4, 5, 6, 7]), (4, [0, 4, 5, 6, 7, 16]), (5, [2, 4]), (6, [0, 4, 5, 6, 7]), (7, [2, 4]), (100002, [0, 4, 5, 6, 7])]),
(47, [(0, [0, 2]), (1, [0, 2, 5]), (2, [2]), (3, [2])]),
(48, [(0, [0, 1]), (1, [0, 1, 10]), (2, [4]), (3, [0, 1, 5]), (4, [0, 1, 5, 14]), (5, [0, 1, 5]), (6, [0, 1, 5, 25]), (7, [4]), (8, [4]), (100004, [0, 1, 5])]),
(49, [(0, [1, 2, 3]), (1, [3, 4])]),
(50, [(0, [0]), (1, [2])]),
(51, [(0, [2, 3]), (1, [2, 3, 12]), (2, [2, 3, 4]), (3, [2, 3, 4])]),
(52, [(0, [0]), (1, [0, 3]), (2, [0, 3, 4]), (3, [0, 3, 4, 8]), (4, [0, 3, 4]), (5, [0, 3, 4]), (6, [2]), (100003, [0, 3, 4])]),
(53, [(0, [1]), (1, [1, 3]), (2, [1, 2])]),
(54, [(0, [0]), (1, [0, 7, 8]), (2, [0, 7, 8, 9]), (3, [0, 3, 7, 8]), (4, [0, 7, 8, 21]), (5, [2]), (6, [0, 7, 8]), (7, [2]), (100002, [0, 7, 8])]),
(55, [(0, [1]), (1, [1, 2])]),
(56, [(0, [0]), (1, [0, 3]), (2, [0, 3, 7]), (3, [0, 3]), (4, [0, 3, 20]), (5, [2]), (6, [2]), (100002, [0, 3])]),
(57, [(0, [0]), (1, [0, 4]), (2, [2]), (3, [2])]),
(58, [(0, []), (1, [0])]),
(59, [(0, [1]), (1, [1, 3]), (2, [1, 3, 4]), (3, [1, 2])]),
(60, [(0, [0, 2]), (1, [2])]),
(61, [(0, [0, 3, 4]), (1, [0, 3, 4, 5]), (2, [3, 4]), (3, [0, 3, 4, 11]), (4, [3, 4]), (5, [3, 4]), (6, [3, 4])]),
(62, [(0, [0, 1, 5]), (1, [1, 5, 6]), (2, [4, 5])]),
(63, [(0, [0]), (1, [0, 4]), (2, [2]), (3, [2])]),
(65, [(0, [0]), (1, [3, 4]), (2, [3, 11]), (3, [2]), (4, [2])]),
(66, [(0, [0, 1]), (1, [1, 5, 6]), (2, [5, 6, 7, 8]), (3, [4])]),
(67, [(0, [0]), (1, [3]), (2, [3, 8]), (3, [2]), (4, [2])]),
(68, [(0, [0, 1]), (1, [1, 5]), (2, [5]), (3, [4])]),
(69, [(0, [1]), (1, [1, 2])]),
(70, [(0, [0, 1]), (1, [0, 1, 5]), (2, [4]), (3, [9]), (4, [4]), (5, [4])]),
(71, [(0, [0]), (1, [2])]),
(72, [(0, [0, 2]), (1, [])]),
(73, [(0, [0, 5]), (1, [0, 5, 7]), (2, [0, 3, 5]), (3, [0, 5, 13]), (100001, [0, 5])]),
(74, [(0, [1, 2]), (1, [1, 2, 3]), (2, [1, 2, 3, 10]), (3, [1, 2]), (4, [1, 2, 3, 13]), (5, [1, 2, 3, 13, 14]), (6, [1, 2]), (7, [1, 2, 3, 20]), (8, [1, 2]), (9, [1, 2, 3, 4]), (10, [1, 2, 3, 4, 5]), (11, [1, 2, 3, 4, 5, 30]), (12, [1, 2]), (13, [1, 2, 3, 4, 41]), (14, [1, 2, 3, 4, 43]), (15, [1, 2]), (16, [1, 2, 3, 4, 62]), (17, [1, 2]), (18, [1, 2, 3, 77]), (19, [1, 2]), (20, [1, 2, 3, 88]), (21, [1, 2]), (22, [1, 2])]),
(75, [(0, [2, 3, 5, 7]), (1, [2, 3, 5, 7]), (2, [2, 3, 5, 7, 14, 15, 16]), (3, [2, 3, 5, 7, 14, 15, 16, 17]), (4, [2, 3, 5, 7, 14, 15, 16]), (5, [2, 3, 5, 7, 14, 15, 16]), (6, [2, 3, 5, 7, 14, 15, 16]), (7, [2, 3, 4, 5, 7]), (100003, [2, 3, 5, 7, 14, 15, 16])]),
(76, [(0, [0, 1]), (1, [4])]),
(77, [(0, [0, 1]), (1, [4])]),
(78, [(0, [0, 3]), (1, [3, 4])]),
(79, [(0, [1, 2, 4, 6]), (1, [2, 4, 6, 7, 8, 9]), (2, [2, 4, 6, 7, 8, 9, 10]), (3, [2, 4, 6, 7, 8, 9]), (4, [2, 4, 6, 7, 8, 9]), (5, [2, 4, 6, 7, 8, 9]), (6, [2, 4, 6]), (100002, [2, 4, 6, 7, 8, 9])]),
(80, [(0, [0, 7]), (1, [0, 3, 7]), (2, [3, 7, 9, 10, 11]), (3, [3, 7, 9, 10, 11, 12]), (4, [3, 5, 7, 9, 10, 11]), (5, [3, 7, 9, 10, 11, 15, 16, 17]), (6, [3, 7, 9, 10, 11, 15, 16, 17, 18]), (7, [3, 7, 9, 10, 11, 15, 16, 17]), (8, [3, 7, 9, 10, 11, 15, 16, 17]), (9, [3, 7, 9, 10, 11, 15, 16, 17]), (10, [3, 7, 9, 10, 11]), (11, [2, 7]), (100003, [3, 7, 9, 10, 11]), (100006, [3, 7, 9, 10, 11, 15, 16, 17])]),
(81, [(0, [0]), (1, [2])]),
(82, [(0, [1]), (1, [1, 2])]),
(83, [(0, [2, 3]), (1, [2, 3, 5, 6]), (2, [2, 3, 5, 6, 7, 8]), (3, [2, 3, 4])]),
(84, [(0, [0, 3]), (1, [0, 3, 10]), (2, [3, 4]), (3, [0, 3, 5]), (4, [0, 3, 5, 6]), (5, [0, 3, 5, 6, 7]), (6, [0, 3, 5, 6, 7, 15]), (7, [0, 3, 5, 6, 7]), (8, [0, 3, 5, 6, 7, 27]), (9, [0, 3, 5, 7]), (10, [0, 3, 5, 6, 7]), (11, [0, 3, 5, 6, 7]), (12, [3, 5, 40]), (13, [3, 5]), (14, [3, 4]), (100006, [0, 3, 5, 6, 7])]),
(85, [(0, [0, 1]), (1, [4])]),
(86, [(0, [2, 3]), (1, [2, 3, 4])]),
(87, [(0, [2, 3]), (1, [2, 3, 9]), (2, [2, 3, 4]), (3, [2, 3, 19]), (4, [2, 3, 4]), (5, [2, 3, 4])]),
(88, [(0, [0, 3, 4]), (1, [0, 3, 4, 10]), (2, [3, 4]), (3, [3, 4]), (4, [3, 4])]),
(89, [(0, [0, 3, 4, 5]), (1, [0, 3, 4, 5]), (2, [3, 4, 5]), (3, [3, 4, 5])]),
(90, [(0, [0, 3, 4]), (1, [3, 4])]),
(91, [(0, [0, 3, 4]), (1, [3, 4])]),
(92, [(0, [0, 3, 4]), (1, [0, 3, 4, 5]), (2, [0, 3, 4, 5, 17]), (3, [3, 4]), (4, [3, 4])]),
(93, [(0, [0]), (1, [4]), (2, [2])]),
(94, [(0, [0]), (1, [0, 9]), (2, [2, 3]), (3, [0, 4]), (4, [0, 4, 11]), (5, [4, 5, 6]), (6, [4, 5, 18]), (7, [2, 3]), (8, [4, 5, 7]), (9, [4, 5, 7, 22]), (10, [4, 5, 7]), (11, [4, 5, 7]), (12, [0, 4]), (13, [0, 4, 46]), (14, [4]), (15, [2, 3]), (100004, [0, 4])]),
(95, [(0, [0, 1, 2]), (1, [0, 1, 2, 11, 12, 13]), (2, [0, 1, 2, 11, 12, 13, 14]), (3, [0, 1, 2, 7, 8, 11, 12, 13]), (4, [0, 1, 2, 7, 8, 11, 12, 13, 21]), (5, [6]), (6, [0, 1, 2, 8, 9, 11, 12, 13]), (7, [0, 1, 2, 10, 11, 12, 13]), (8, [0, 1, 2, 10, 11, 12, 13, 31]), (9, [6]), (10, [0, 1, 2, 11, 12, 13]), (11, [38]), (12, [6]), (13, [6]), (100002, [0, 1, 2, 11, 12, 13])]),
(96, [(0, [0, 1]), (1, [4])]),
(97, [(0, [0]), (1, [3]), (2, [2])]),
(98, [(0, [0, 1, 8]), (1, [0, 1, 8, 12]), (2, [0, 1, 8, 12, 13]), (3, [4, 8]), (4, [0, 1, 8, 15]), (5, [4, 8]), (6, [0, 1, 5, 8]), (7, [0, 1, 5, 8, 22]), (8, [0, 1, 5, 8, 29]), (9, [0, 1, 5, 8]), (10, [0, 1, 5, 8]), (11, [0, 1, 5, 8, 39, 40, 41]), (12, [0, 1, 5, 8, 39, 40, 41, 42]), (13, [0, 1, 5, 7, 8, 39, 40, 41]), (14, [0, 1, 5, 7, 8, 39, 40, 41, 49]), (15, [0, 1, 5, 7, 8, 39, 40, 41]), (16, [0, 1, 5, 8, 39, 40, 41]), (17, [0, 1, 5, 8, 39, 40, 41]), (18, [0, 1, 5, 8]), (19, [0, 1, 8]), (20, [0, 1, 8]), (21, [1, 8, 63, 64, 65]), (22, [1, 8, 63, 64, 65, 66]), (23, [1, 8, 10, 63, 64, 65]), (24, [1, 8, 10, 63, 64, 65]), (25, [1, 8, 63, 64, 65]), (26, [1, 8, 63, 64, 65]), (27, [4, 8]), (100012, [0, 1, 5, 8, 39, 40, 41]), (100022, [1, 8, 63, 64, 65])]),
(99, [(0, [0]), (1, [2])]),
(100, [(0, [0, 1, 4]), (1, [])]),
(101, [(0, [0, 5]), (1, [0, 5, 7]), (2, [0, 3, 5]), (3, [0, 5, 13]), (100001, [0, 5])]),
(102, [(0, [1, 2]), (1, [2]), (4, [2, 4])]),
(103, [(0, [0, 1, 2, 3, 8]), (1, [0, 1, 2, 3, 8, 9]), (2, [0, 1, 2, 3, 8, 9, 10]), (3, [0, 1, 2, 3, 8, 9, 10, 23]), (4, []), (5, [0, 1, 2, 3, 8, 9, 10, 29]), (6, []), (7, [0, 1, 2, 3, 8, 9, 10, 35]), (8, [0, 1, 2, 3, 8, 9, 10]), (9, [0, 1, 2, 3, 8, 9, 10]), (10, [0, 1, 2, 3, 8, 9, 10, 11, 12]), (11, [0, 1, 2, 3, 8, 9, 10, 11, 12, 50]), (12, [0, 1, 2, 3, 8, 9, 10, 11]), (13, [0, 1, 2, 3, 8, 9, 10, 11]), (14, [0, 1, 2, 3, 8, 9, 10, 11, 12]), (15, [0, 1, 2, 3, 8, 9, 10, 11, 68]), (16, [0, 1, 2, 3, 8, 9, 10, 11, 72]), (17, [0, 1, 2, 3, 8, 9, 10, 11, 87]), (18, [0, 2, 3, 8, 9, 13]), (19, [0, 1, 2, 3, 8, 9]), (20, [0, 1, 2, 3, 10, 14, 15]), (21, [0, 1, 2, 3, 9, 10, 14]), (22, [0, 1, 2, 3, 9, 10, 14, 16, 17]), (23, [0, 1, 2, 3, 9, 14, 16, 17, 18]), (24, [0, 1, 2, 3, 9, 14, 16, 17, 18, 113]), (25, [0, 1, 2, 3, 8, 9, 14]), (26, [0, 2, 3, 8, 9, 14]), (27, [0, 1, 2, 3, 8, 9]), (28, [0, 1, 2, 3, 8, 9, 14]), (29, [0, 1, 3, 8, 9, 14]), (30, [0, 1, 2, 3, 8, 9]), (100002, [0, 1, 2, 3, 8, 9])]),
(104, [(0, [0]), (1, [2]), (2, [2])]),
(105, [(0, [0, 1]), (1, [0, 1, 5]), (2, [0, 5, 8, 9, 10]), (3, [0, 5, 8, 9, 10, 11]), (4, [0, 5, 7, 8, 9, 10]), (5, [0, 5, 8, 9, 10]), (6, [0, 5, 8, 9, 10]), (7, [4]), (100003, [0, 5, 8, 9, 10])]),
(106, [(0, [0]), (1, [0, 3]), (2, [0, 3, 9, 10, 11]), (3, [0, 3, 9, 10, 11, 12]), (4, [0, 3, 5, 9, 10, 11]), (5, [0, 3, 9, 10, 11]), (6, [0, 3, 9, 10, 11, 20]), (7, [0, 3, 9, 10, 11]), (8, [0, 3, 9, 10, 11]), (9, [0, 6]), (10, [6, 25, 26, 27]), (11, [6, 25, 26, 27, 28]), (12, [6, 8, 25, 26, 27]), (13, [6, 25, 26, 27]), (14, [6, 25, 26, 27]), (15, [2]), (100003, [0, 3, 9, 10, 11]), (100011, [6, 25, 26, 27])]),
(107, [(0, [0, 1]), (1, [4])]),
(108, [(0, [1, 2]), (1, [2, 3])]),
(109, [(0, [0, 1, 5]), (1, [0, 1, 5, 13]), (2, [4, 5]), (3, [1, 5, 15]), (4, [1, 5, 15, 17]), (5, [1, 5, 6, 15]), (6, [1, 5, 6, 7, 8, 15]), (7, [1, 5, 15, 33]), (8, [4, 5]), (9, [4, 5]), (100004, [1, 5, 15])]),
(110, [(0, [0, 3]), (1, [3, 4])]),
(111, [(0, [0, 1]), (1, [1, 5]), (2, [5]), (3, [4])]),
(112, [(0, [1]), (1, [1, 2])]),
(113, [(0, [2, 3]), (1, [2, 3, 4])]),
(114, [(0, [1, 6, 7, 8]), (1, [1, 4, 6, 7, 8]), (2, [1, 4, 6, 7, 8, 13]), (3, [1, 2, 3, 6, 7, 8]), (4, [1, 4, 5, 6, 7, 8]), (5, [1, 4, 5, 6, 7, 8]), (6, [1, 4, 5, 6, 7, 8]), (7, [1, 4, 5, 6, 7, 8]), (8, [1, 4, 5, 6, 7, 8, 23]), (9, [1, 4, 5, 6, 7, 8, 23, 24]), (10, [1, 5, 6, 7, 8, 27]), (11, [1, 2, 3, 6, 7, 8]), (12, [1, 2, 3, 6, 7, 8]), (13, [1, 4, 5, 6, 7, 8, 23, 39]), (14, [1, 5, 6, 7, 8, 42]), (15, [1, 2, 3, 6, 7, 8]), (16, [1, 4, 6, 7, 8, 23, 51]), (17, [1, 6, 7, 8, 54]), (18, [1, 2, 3, 6, 7, 8]), (19, [1, 4, 6, 7, 8, 23, 59]), (20, [1, 6, 7, 8, 62]), (21, [1, 2, 3, 6, 7, 8]), (22, [1, 6, 7, 8, 23, 68]), (23, [1, 2, 3, 6, 7, 8]), (24, [1, 6, 7, 8, 73]), (25, [1, 2, 3, 6, 7, 8]), (26, [1, 2, 3, 6, 7, 8])]),
(115, [(0, [0, 1]), (1, [0, 1, 5]), (2, [0, 1, 5, 10]), (3, [0, 1, 5]), (4, [0, 1, 5, 6]), (5, [0, 1, 5, 6, 16]), (6, [0, 1, 5, 6]), (7, [0, 1, 5, 6, 27]), (8, [4]), (9, [4]), (100002, [0, 1, 5]), (100005, [0, 1, 5, 6])]),
(116, [(0, [0, 3]), (1, [0, 3, 5]), (2, [0, 3, 5, 9]), (3, [0, 3, 5]), (4, [0, 3, 5, 17]), (5, [3, 4]), (6, [3, 4]), (100002, [0, 3, 5])]),
(117, [(0, [0, 1]), (1, [0, 1, 5]), (2, [1, 5, 11]), (3, [1, 5, 11, 13]), (4, [1, 5, 6, 11]), (5, [1, 5, 6, 11, 19]), (6, [1, 5, 11]), (7, [5]), (8, [4]), (100003, [1, 5, 11])]),
(118, [(0, [0, 1]), (1, [4, 5])]),
(119, [(0, [0, 1]), (1, [4])]),
(120, [(0, [0]), (1, [0, 6, 7]), (2, [0, 6, 7, 8]), (3, [0, 3, 6, 7]), (4, [0, 4, 6, 7]), (5, [2]), (6, [0, 4, 6, 7, 13]), (7, [0, 4, 6, 7, 13]), (8, [0, 4, 6, 7, 13]), (9, [0, 6, 7, 13]), (10, [0, 6, 7]), (11, [2]), (100002, [0, 6, 7])]),
(121, [(0, [0, 1]), (1, [4])]),
(122, [(0, [0, 1]), (1, [0, 1, 7]), (2, [0, 1]), (3, [0, 1, 21]), (4, [])]),
(123, [(0, [0, 1]), (1, [0, 1]), (2, [1]), (3, [4, 5])]),
(124, [(0, [0]), (1, [2])]),
(125, [(0, [1, 2]), (1, [2]), (4, [2, 4])]),
(126, [(0, [0, 1, 2, 3, 4, 10]), (1, [0, 1, 2, 3, 4, 10, 11]), (2, [0, 1, 2, 3, 4, 10, 11, 12]), (3, [0, 1, 2, 3, 4, 10, 11, 12, 25]), (4, []), (5, [0, 1, 2, 3, 4, 10, 11, 12, 32]), (6, []), (7, [0, 1, 2, 3, 4, 10, 11, 12, 39]), (8, [0, 1, 2, 3, 4, 10, 11, 12]), (9, [0, 1, 2, 3, 4, 10, 11, 12]), (10, [0, 1, 2, 3, 4, 10, 11, 12, 13, 14]), (11, [0, 1, 2, 3, 4, 10, 11, 12, 13, 14, 56]), (12, [0, 1, 2, 3, 4, 10, 11, 12, 13]), (13, [0, 1, 2, 3, 4, 10, 11, 12, 13]), (14, [0, 1, 2, 3, 4, 10, 11, 12, 13, 14]), (15, [0, 1, 2, 3, 4, 10, 11, 12, 13, 75]), (16, [0, 1, 2, 3, 4, 10, 11, 12, 13, 80]), (17, [0, 1, 2, 3, 4, 10, 11, 12, 13, 97]), (18, [0, 2, 3, 4, 10, 11, 15]), (19, [0, 1, 2, 3, 4, 10, 11]), (20, [0, 1, 2, 3, 4, 12, 16, 17]), (21, [0, 1, 2, 3, 4, 11, 12, 16]), (22, [0, 1, 2, 3, 4, 11, 12, 16, 18, 19]), (23, [0, 1, 2, 3, 4, 11, 16, 18, 19, 20]), (24, [0, 1, 2, 3, 4, 11, 16, 18, 19, 20, 125]), (25, [0, 1, 2, 3, 4, 10, 11, 16]), (26, [0, 2, 3, 4, 10, 11, 16]), (27, [0, 1, 2, 3, 4, 10, 11]), (28, [0, 1, 2, 3, 4, 10, 11, 16]), (29, [0, 1, 3, 4, 10, 11, 16]), (30, [0, 1, 2, 3, 4, 10, 11]), (100002, [0, 1, 2, 3, 4, 10, 11])]),
(127, [(0, [0, 1, 2, 6]), (1, [0, 1, 2, 6, 12]), (2, [0, 1, 2, 6]), (3, [0, 1, 2, 6, 7]), (4, [0, 1, 2, 6, 7, 30]), (5, [0, 1, 2, 6, 7]), (6, [0, 1, 2, 6, 7]), (100001, [0, 1, 2, 6]), (100004, [0, 1, 2, 6, 7])]),
(128, [(0, [0, 1, 2, 6]), (1, [0, 1, 2, 6, 7]), (2, [0, 6, 7, 8]), (3, [0, 6, 7, 8, 9]), (4, [0, 6, 7, 8, 9, 19]), (5, [0, 6, 7, 8, 9]), (6, [0, 6, 7, 8, 9]), (7, [0, 6, 7, 10]), (8, [0, 6, 7, 10, 30]), (9, [0, 6, 7, 10]), (10, [0, 6, 7, 10]), (11, [0, 6, 7, 10]), (100004, [0, 6, 7, 8, 9]), (100008, [0, 6, 7, 10])]),
(129, [(0, [0, 1, 6, 7]), (1, [0, 1, 6, 7, 15]), (2, [0, 1, 6, 7]), (3, [0, 1, 6, 7, 8]), (4, [0, 1, 6, 7, 8, 9]), (5, [0, 1, 6, 7, 8, 9, 33]), (6, [0, 1, 6, 7, 8, 9]), (7, [0, 1, 6, 7, 8, 9, 10]), (8, [0, 1, 6, 7, 8, 9, 10, 43]), (9, [0, 1, 6, 7, 8, 9, 10]), (10, [0, 1, 6, 7, 8, 9]), (100005, [0, 1, 6, 7, 8, 9])]),
(130, [(0, [0, 1, 2, 9]), (1, [0, 1, 8, 9]), (2, [0, 1, 8, 9]), (3, [0, 1, 8, 9, 10]), (4, [0, 1, 8, 9, 10, 11]), (5, [0, 8, 9, 10, 11, 12]), (6, [0, 8, 9, 10, 11, 12, 32]), (7, [0, 9, 10, 11, 12, 34]), (8, [0, 9, 10, 11, 12]), (9, [0, 9, 10, 11, 12]), (10, [0, 9, 10, 11, 12]), (11, [9, 11]), (12, [9, 11, 49]), (13, [6, 7, 9]), (14, [9, 11, 49, 51]), (15, [6, 7, 9]), (16, [9, 11, 54]), (17, [6, 7, 9])]),
(131, [(0, [0, 2, 6]), (1, [0, 6, 7]), (2, [0, 6, 7, 13]), (3, [0, 6, 7]), (4, [0, 6, 7]), (5, [0, 6, 7]), (100002, [0, 6, 7])]),
(132, [(0, [0, 1, 2]), (1, [0, 1, 2, 7]), (2, [0, 1, 2, 7, 8]), (3, [0, 1, 2, 7, 8, 14]), (4, [0, 1, 2, 7, 8]), (5, [0, 1, 2, 7, 8, 32]), (6, [0, 1, 2, 7, 8]), (7, [0, 1, 2, 7, 8, 37]), (8, [6]), (9, [0, 1, 2, 7, 8, 41]), (10, [6]), (11, [0, 1, 2, 7, 8]), (12, [0, 1, 2, 7, 8, 61]), (13, [0, 1, 2, 7, 8, 9]), (14, [0, 1, 2, 7, 8, 9, 65]), (15, [0, 1, 2, 7, 8, 9]), (16, [0, 1, 2, 7, 8, 9, 78]), (17, [0, 1, 2, 7, 8, 9]), (18, [0, 1, 2, 7, 8, 98]), (19, [0, 1, 2, 7, 8, 10]), (20, [0, 1, 2, 7, 8, 10, 103]), (21, [0, 1, 2, 7, 8, 10]), (22, [0, 1, 2, 7, 8, 10, 116]), (23, [0, 1, 2, 7, 8, 10]), (24, [6]), (100003, [0, 1, 2, 7, 8]), (100005, [0, 1, 2, 7, 8]), (100014, [0, 1, 2, 7, 8, 9]), (100020, [0, 1, 2, 7, 8, 10])]),
(133, [(0, [0, 1]), (1, [4])]),
(134, [(0, [0, 1, 2, 3]), (1, [0, 1, 2]), (2, [0, 1, 9, 10]), (3, [0, 1, 9, 10, 43]), (4, [0, 1, 9, 10]), (5, [0, 1, 9, 10, 59]), (6, [0, 1, 9, 10]), (7, [0, 1, 9, 10, 64]), (8, [0, 1, 9, 10]), (9, [0, 1, 9, 10]), (10, [0, 1, 9, 10]), (11, [8]), (100000, [0, 1, 9, 10]), (100003, [0, 1, 9, 10]), (100005, [0, 1, 9, 10])]),
(135, [(0, [0, 1, 2, 3]), (1, [0, 1, 2]), (2, [0, 1, 10, 11]), (3, [0, 1, 10, 11, 43]), (4, [0, 1, 10, 11]), (5, [0, 1, 10, 11, 60]), (6, [0, 1, 10, 11]), (7, [0, 1, 10, 11, 65]), (8, [11]), (9, [8, 9]), (10, [0, 1, 10, 11]), (11, [0, 1, 10, 11]), (12, [0, 1, 10, 11]), (13, [0, 1, 10, 11, 112]), (14, [0, 1, 10, 11]), (15, [0, 1, 10, 11, 129]), (16, [0, 1, 10, 11]), (17, [0, 1, 10, 11, 134]), (18, [0, 1, 10, 11]), (19, [0, 1, 10, 11]), (20, [0, 1, 10, 11]), (21, [11]), (22, [8, 9]), (100000, [0, 1, 10, 11]), (100003, [0, 1, 10, 11]), (100005, [0, 1, 10, 11]), (100013, [0, 1, 10, 11]), (100015, [0, 1, 10, 11])]),
(136, [(0, [0, 2]), (1, [0, 2, 4]), (2, [0]), (3, [0, 2]), (4, [0, 2, 8]), (5, [0, 2]), (6, [0, 2]), (7, [2])]),
(137, [(0, [0, 2]), (1, [0, 2, 4]), (2, [0]), (3, [0, 2]), (4, [0, 2, 8]), (5, [0, 2]), (6, [0, 2]), (7, [0, 2, 14]), (8, [0, 2]), (9, [0, 2]), (10, [2])]),
(138, [(0, [0, 1]), (1, [0, 1, 6]), (2, [0, 1]), (3, [0, 1]), (4, [0, 1, 16]), (5, [0]), (6, [4])]),
(139, [(0, [0, 1]), (1, [0, 1, 7, 8]), (2, [0, 1, 7, 8, 9]), (3, [0, 1, 5, 7, 8]), (4, [0, 1, 5, 7, 8, 16]), (5, [4]), (6, [0, 1, 7, 8]), (7, [4]), (100002, [0, 1, 7, 8])]),
(140, [(0, [0, 3]), (1, [0, 3, 7, 8]), (2, [0, 3, 7, 8, 9]), (3, [0, 3, 5, 7, 8]), (4, [0, 3, 5, 7, 8, 16]), (5, [3, 4]), (6, [0, 3, 7, 8]), (7, [3, 4]), (100002, [0, 3, 7, 8])]),
(141, [(0, [0]), (1, [2])]),
(142, [(0, [0, 1, 4]), (1, [])]),
(143, [(0, [0, 3, 5]), (1, [0, 3, 5, 7]), (2, [0, 3, 5]), (3, [0, 3, 5, 13]), (100001, [0, 3, 5])]),
(144, [(0, [0]), (1, [0, 3]), (2, [3, 6, 7, 8]), (3, [3, 6, 7, 8, 9]), (4, [3, 5, 6, 7, 8]), (5, [3, 5, 6, 7, 8, 14]), (6, [2]), (7, [3, 6, 7, 8]), (8, [2]), (100003, [3, 6, 7, 8])]),
(145, [(0, [0, 1]), (1, [0, 1, 5]), (2, [0, 1, 5, 6]), (3, [0, 1, 6, 11]), (4, [12]), (5, [4]), (6, [4]), (7, [0, 1, 13]), (8, [4]), (9, [0, 1, 16]), (10, [4]), (11, [19]), (12, [4]), (13, [4])]),
(146, [(0, [0]), (1, [0, 12]), (2, [2]), (3, [0, 3, 4]), (4, [2])]),
(147, [(0, [0]), (1, [0, 8]), (2, [2]), (3, [3]), (4, [4]), (5, [2])]),
(148, [(0, [0]), (1, [3]), (2, [3, 8]), (3, [2]), (4, [2])]),
(149, [(0, [0, 1]), (1, [0, 1, 5]), (2, [0, 1, 5, 6]), (3, [0, 1, 6, 11]), (4, [12]), (5, [4]), (6, [4]), (7, [0, 1, 13]), (8, [4]), (9, [0, 1, 16]), (10, [4]), (11, [19]), (12, [4]), (13, [4])]),
(150, [(0, [0, 1]), (1, [0, 1, 9]), (2, [4, 5]), (3, [4, 5])]),
(151, [(0, [0, 1]), (1, [4])]),
(153, [(0, [0, 6]), (1, []), (2, [19])]),
(154, [(0, [0, 4]), (1, [0, 4]), (2, [])]),
(155, [(0, [0, 1, 2, 3, 8]), (1, [0, 1, 2, 3, 8, 14]), (2, [0, 1, 2, 3, 8]), (3, [0, 1, 2, 3, 8, 9]), (4, [0, 1, 2, 3, 8, 9, 34]), (5, [0, 1, 2, 3, 8, 9]), (6, [0, 1, 2, 3, 8, 9]), (100001, [0, 1, 2, 3, 8]), (100004, [0, 1, 2, 3, 8, 9])]),
(156, [(0, [0, 1, 2, 3, 8]), (1, [0, 1, 2, 3, 8, 9]), (2, [0, 3, 8, 9, 10]), (3, [0, 3, 8, 9, 10, 11]), (4, [0, 3, 8, 9, 10, 11, 21]), (5, [0, 3, 8, 9, 10, 11]), (6, [0, 3, 8, 9, 10, 11]), (7, [0, 3, 8, 9, 12]), (8, [0, 3, 8, 9, 12, 33]), (9, [0, 3, 8, 9, 12]), (10, [0, 3, 8, 9, 12]), (11, [0, 3, 8, 9, 12]), (100004, [0, 3, 8, 9, 10, 11]), (100008, [0, 3, 8, 9, 12])]),
(157, [(0, [0, 1, 8, 9]), (1, [0, 1, 8, 9, 17]), (2, [0, 1, 8, 9]), (3, [0, 1, 8, 9, 10]), (4, [0, 1, 8, 9, 10, 11]), (5, [0, 1, 8, 9, 10, 11, 35]), (6, [0, 1, 8, 9, 10, 11]), (7, [0, 1, 8, 9, 10, 11, 12]), (8, [0, 1, 8, 9, 10, 11, 12, 45]), (9, [0, 1, 8, 9, 10, 11, 12]), (10, [0, 1, 8, 9, 10, 11]), (100005, [0, 1, 8, 9, 10, 11])]),
(158, [(0, [0, 1, 2, 3, 11]), (1, [0, 1, 3, 10, 11]), (2, [0, 1, 3, 10, 11]), (3, [0, 1, 3, 10, 11, 12]), (4, [0, 1, 3, 10, 11, 12, 13]), (5, [0, 3, 10, 11, 12, 13, 14]), (6, [0, 3, 10, 11, 12, 13, 14, 34]), (7, [0, 3, 11, 12, 13, 14, 36]), (8, [0, 3, 11, 12, 13, 14]), (9, [0, 3, 11, 12, 13, 14]), (10, [0, 3, 11, 12, 13, 14]), (11, [11, 13]), (12, [11, 13, 55]), (13, [8, 9, 11]), (14, [11, 13, 55, 57]), (15, [8, 9, 11]), (16, [11, 13, 60]), (17, [8, 9, 11])]),
(159, [(0, [0, 2, 8]), (1, [0, 8, 9]), (2, [0, 8, 9, 15]), (3, [0, 8, 9]), (4, [0, 8, 9]), (5, [0, 8, 9]), (100002, [0, 8, 9])]),
(160, [(0, [0, 1, 2, 3]), (1, [0, 1, 2, 3, 9]), (2, [0, 1, 2, 3, 9, 10]), (3, [0, 1, 2, 3, 9, 10, 16]), (4, [0, 1, 2, 3, 9, 10]), (5, [0, 1, 2, 3, 9, 10, 36]), (6, [0, 1, 2, 3, 9, 10]), (7, [0, 1, 2, 3, 9, 10, 41]), (8, [8]), (9, [0, 1, 2, 3, 9, 10, 45]), (10, [8]), (11, [0, 1, 2, 3, 9, 10]), (12, [0, 1, 2, 3, 9, 10, 65]), (13, [0, 1, 2, 3, 9, 10, 11]), (14, [0, 1, 2, 3, 9, 10, 11, 69]), (15, [0, 1, 2, 3, 9, 10, 11]), (16, [0, 1, 2, 3, 9, 10, 11, 84]), (17, [0, 1, 2, 3, 9, 10, 11]), (18, [0, 1, 2, 3, 9, 10, 104]), (19, [0, 1, 2, 3, 9, 10, 12]), (20, [0, 1, 2, 3, 9, 10, 12, 109]), (21, [0, 1, 2, 3, 9, 10, 12]), (22, [0, 1, 2, 3, 9, 10, 12, 124]), (23, [0, 1, 2, 3, 9, 10, 12]), (24, [8]), (100003, [0, 1, 2, 3, 9, 10]), (100005, [0, 1, 2, 3, 9, 10]), (100014, [0, 1, 2, 3, 9, 10, 11]), (100020, [0, 1, 2, 3, 9, 10, 12])]),
(161, [(0, [0, 1, 2, 3, 4]), (1, [0, 1, 2, 4]), (2, [0, 1, 4, 11, 12]), (3, [0, 1, 4, 11, 12, 47]), (4, [0, 1, 4, 11, 12]), (5, [0, 1, 4, 11, 12, 65]), (6, [0, 1, 4, 11, 12]), (7, [0, 1, 4, 11, 12, 70]), (8, [0, 1, 4, 11, 12]), (9, [0, 1, 4, 11, 12]), (10, [0, 1, 4, 11, 12]), (11, [10]), (100000, [0, 1, 4, 11, 12]), (100003, [0, 1, 4, 11, 12]), (100005, [0, 1, 4, 11, 12])]),
(162, [(0, [0, 1, 2, 3, 4]), (1, [0, 1, 2, 4]), (2, [0, 1, 4, 12, 13]), (3, [0, 1, 4, 12, 13, 47]), (4, [0, 1, 4, 12, 13]), (5, [0, 1, 4, 12, 13, 66]), (6, [0, 1, 4, 12, 13]), (7, [0, 1, 4, 12, 13, 71]), (8, [13]), (9, [10, 11]), (10, [0, 1, 4, 12, 13]), (11, [0, 1, 4, 12, 13]), (12, [0, 1, 4, 12, 13]), (13, [0, 1, 4, 12, 13, 120]), (14, [0, 1, 4, 12, 13]), (15, [0, 1, 4, 12, 13, 139]), (16, [0, 1, 4, 12, 13]), (17, [0, 1, 4, 12, 13, 144]), (18, [0, 1, 4, 12, 13]), (19, [0, 1, 4, 12, 13]), (20, [0, 1, 4, 12, 13]), (21, [13]), (22, [10, 11]), (100000, [0, 1, 4, 12, 13]), (100003, [0, 1, 4, 12, 13]), (100005, [0, 1, 4, 12, 13]), (100013, [0, 1, 4, 12, 13]), (100015, [0, 1, 4, 12, 13])]),
(163, [(0, [0, 2, 3, 8]), (1, [0, 2, 3, 8, 9]), (2, [0, 2, 3, 8, 9, 16]), (3, [0, 2, 3, 8, 9, 36]), (4, [0, 2, 3, 8, 9]), (5, [0, 2, 3, 8, 9, 52]), (6, [0, 2, 3, 9]), (7, [0, 2, 3, 8]), (100001, [0, 2, 3, 8])]),
(164, [(0, [0]), (1, [2])]),
(165, [(0, [0]), (1, [0]), (2, [0]), (3, [0]), (4, [2])]),
(166, [(0, [0, 1, 2]), (1, [6])]),
(167, [(0, [0, 1, 2, 3, 4]), (1, [0, 1, 2, 3, 4]), (2, [0, 1, 2, 4]), (3, [2]), (4, [10])]),
(168, [(0, [0]), (1, [2])]),
(169, [(0, [1, 2, 5]), (1, [2, 5]), (4, [2, 4, 5])]),
(170, [(0, [0, 1, 2, 3, 4, 10]), (1, [0, 1, 2, 3, 4, 10, 11]), (2, [0, 1, 2, 3, 4, 10, 11, 12]), (3, [0, 1, 2, 3, 4, 10, 11, 12, 25]), (4, []), (5, [0, 1, 2, 3, 4, 10, 11, 12, 32]), (6, []), (7, [0, 1, 2, 3, 4, 10, 11, 12, 39]), (8, [0, 1, 2, 3, 4, 10, 11, 12]), (9, [0, 1, 2, 3, 4, 10, 11, 12]), (10, [0, 1, 2, 3, 4, 10, 11, 12, 13, 14]), (11, [0, 1, 2, 3, 4, 10, 11, 12, 13, 14, 56]), (12, [0, 1, 2, 3, 4, 10, 11, 12, 13]), (13, [0, 1, 2, 3, 4, 10, 11, 12, 13]), (14, [0, 1, 2, 3, 4, 10, 11, 12, 13, 14]), (15, [0, 1, 2, 3, 4, 10, 11, 12, 13, 75]), (16, [0, 1, 2, 3, 4, 10, 11, 12, 13, 80]), (17, [0, 1, 2, 3, 4, 10, 11, 12, 13, 97]), (18, [0, 2, 3, 4, 10, 11, 15]), (19, [0, 1, 2, 3, 4, 10, 11]), (20, [0, 1, 2, 3, 4, 12, 16, 17]), (21, [0, 1, 2, 3, 4, 11, 12, 16]), (22, [0, 1, 2, 3, 4, 11, 12, 16, 18, 19]), (23, [0, 1, 2, 3, 4, 11, 16, 18, 19, 20]), (24, [0, 1, 2, 3, 4, 11, 16, 18, 19, 20, 125]), (25, [0, 1, 2, 3, 4, 10, 11, 16]), (26, [0, 2, 3, 4, 10, 11, 16]), (27, [0, 1, 2, 3, 4, 10, 11]), (28, [0, 1, 2, 3, 4, 10, 11, 16]), (29, [0, 1, 3, 4, 10, 11, 16]), (30, [0, 1, 2, 3, 4, 10, 11]), (100002, [0, 1, 2, 3, 4, 10, 11])]),
(171, [(0, [0]), (1, [0, 8]), (2, [2, 3]), (3, [0, 4]), (4, [0, 4, 5]), (5, [0, 4, 5, 12]), (6, [0, 4, 5]), (7, [0, 4, 5, 20]), (8, [2, 3]), (9, [0, 4, 5]), (10, [4, 29]), (11, [4]), (12, [2, 3]), (100005, [0, 4, 5])]),
(172, [(0, [0]), (1, [0, 3]), (2, [0, 3, 4]), (3, [0, 3, 4, 5]), (4, [0, 3, 4, 5, 9]), (5, [0, 3, 4, 5]), (6, [0, 3, 4, 5, 15]), (7, [0, 3, 5]), (8, [0, 3, 4, 5]), (9, [0, 3, 4, 5]), (10, [3, 4, 28]), (11, [3]), (12, [2]), (100004, [0, 3, 4, 5])]),
(173, [(0, [0]), (1, [0, 5]), (2, [2]), (3, [2])]),
(174, [(0, [0]), (1, [2])]),
(175, [(0, [0, 1]), (1, [4])]),
(179, [(0, [0, 2, 3, 4, 10]), (1, [0, 2, 3, 4, 10, 11]), (2, [0, 2, 3, 4, 10, 11, 18]), (3, [0, 2, 3, 4, 10, 11, 40]), (4, [0, 2, 3, 4, 10, 11]), (5, [0, 2, 3, 4, 10, 11, 58]), (6, [0, 2, 3, 4, 11]), (7, [0, 2, 3, 4, 10]), (100001, [0, 2, 3, 4, 10])]),
(180, [(0, [0, 1, 2, 3]), (1, [8])]),
(181, [(0, [0, 1, 2, 3, 4, 5]), (1, [0, 1, 2, 3, 4, 5]), (2, [0, 1, 2, 4, 5]), (3, [2]), (4, [12])]),
(182, [(0, [0, 1, 2, 3]), (1, [1, 2, 3, 18]), (2, [1, 2]), (3, [8, 9]), (4, [8, 9])]),
(183, [(0, [0, 1, 2, 3, 8]), (1, [0, 1, 2, 3, 8, 14]), (2, [0, 1, 2, 3, 8]), (3, [0, 1, 2, 3, 8, 9]), (4, [0, 1, 2, 3, 8, 9, 34]), (5, [0, 1, 2, 3, 8, 9]), (6, [0, 1, 2, 3, 8, 9]), (100001, [0, 1, 2, 3, 8]), (100004, [0, 1, 2, 3, 8, 9])]),
(184, [(0, [0, 1, 2, 3, 8]), (1, [0, 1, 2, 3, 8, 9]), (2, [0, 3, 8, 9, 10]), (3, [0, 3, 8, 9, 10, 11]), (4, [0, 3, 8, 9, 10, 11, 21]), (5, [0, 3, 8, 9, 10, 11]), (6, [0, 3, 8, 9, 10, 11]), (7, [0, 3, 8, 9, 12]), (8, [0, 3, 8, 9, 12, 33]), (9, [0, 3, 8, 9, 12]), (10, [0, 3, 8, 9, 12]), (11, [0, 3, 8, 9, 12]), (100004, [0, 3, 8, 9, 10, 11]), (100008, [0, 3, 8, 9, 12])]),
(185, [(0, [0, 1, 8, 9]), (1, [0, 1, 8, 9, 17]), (2, [0, 1, 8, 9]), (3, [0, 1, 8, 9, 10]), (4, [0, 1, 8, 9, 10, 11]), (5, [0, 1, 8, 9, 10, 11, 35]), (6, [0, 1, 8, 9, 10, 11]), (7, [0, 1, 8, 9, 10, 11, 12]), (8, [0, 1, 8, 9, 10, 11, 12, 45]), (9, [0, 1, 8, 9, 10, 11, 12]), (10, [0, 1, 8, 9, 10, 11]), (100005, [0, 1, 8, 9, 10, 11])]),
(186, [(0, [0, 1, 2, 3, 11]), (1, [0, 1, 3, 10, 11]), (2, [0, 1, 3, 10, 11]), (3, [0, 1, 3, 10, 11, 12]), (4, [0, 1, 3, 10, 11, 12, 13]), (5, [0, 3, 10, 11, 12, 13, 14]), (6, [0, 3, 10, 11, 12, 13, 14, 34]), (7, [0, 3, 11, 12, 13, 14, 36]), (8, [0, 3, 11, 12, 13, 14]), (9, [0, 3, 11, 12, 13, 14]), (10, [0, 3, 11, 12, 13, 14]), (11, [11, 13]), (12, [11, 13, 55]), (13, [8, 9, 11]), (14, [11, 13, 55, 57]), (15, [8, 9, 11]), (16, [11, 13, 60]), (17, [8, 9, 11])]),
(187, [(0, [0, 2, 8]), (1, [0, 8, 9]), (2, [0, 8, 9, 15]), (3, [0, 8, 9]), (4, [0, 8, 9]), (5, [0, 8, 9]), (100002, [0, 8, 9])]),
(188, [(0, [0, 1, 2, 3]), (1, [0, 1, 2, 3, 9]), (2, [0, 1, 2, 3, 9, 10]), (3, [0, 1, 2, 3, 9, 10, 16]), (4, [0, 1, 2, 3, 9, 10]), (5, [0, 1, 2, 3, 9, 10, 36]), (6, [0, 1, 2, 3, 9, 10]), (7, [0, 1, 2, 3, 9, 10, 41]), (8, [8]), (9, [0, 1, 2, 3, 9, 10, 45]), (10, [8]), (11, [0, 1, 2, 3, 9, 10]), (12, [0, 1, 2, 3, 9, 10, 65]), (13, [0, 1, 2, 3, 9, 10, 11]), (14, [0, 1, 2, 3, 9, 10, 11, 69]), (15, [0, 1, 2, 3, 9, 10, 11]), (16, [0, 1, 2, 3, 9, 10, 11, 84]), (17, [0, 1, 2, 3, 9, 10, 11]), (18, [0, 1, 2, 3, 9, 10, 104]), (19, [0, 1, 2, 3, 9, 10, 12]), (20, [0, 1, 2, 3, 9, 10, 12, 109]), (21, [0, 1, 2, 3, 9, 10, 12]), (22, [0, 1, 2, 3, 9, 10, 12, 124]), (23, [0, 1, 2, 3, 9, 10, 12]), (24, [8]), (100003, [0, 1, 2, 3, 9, 10]), (100005, [0, 1, 2, 3, 9, 10]), (100014, [0, 1, 2, 3, 9, 10, 11]), (100020, [0, 1, 2, 3, 9, 10, 12])]),
(189, [(0, [0, 1, 2, 3, 4]), (1, [0, 1, 2, 4]), (2, [0, 1, 4, 11, 12]), (3, [0, 1, 4, 11, 12, 47]), (4, [0, 1, 4, 11, 12]), (5, [0, 1, 4, 11, 12, 65]), (6, [0, 1, 4, 11, 12]), (7, [0, 1, 4, 11, 12, 70]), (8, [0, 1, 4, 11, 12]), (9, [0, 1, 4, 11, 12]), (10, [0, 1, 4, 11, 12]), (11, [10]), (100000, [0, 1, 4, 11, 12]), (100003, [0, 1, 4, 11, 12]), (100005, [0, 1, 4, 11, 12])]),
(190, [(0, [0, 1, 2, 3, 4]), (1, [0, 1, 2, 4]), (2, [0, 1, 4, 12, 13]), (3, [0, 1, 4, 12, 13, 47]), (4, [0, 1, 4, 12, 13]), (5, [0, 1, 4, 12, 13, 66]), (6, [0, 1, 4, 12, 13]), (7, [0, 1, 4, 12, 13, 71]), (8, [13]), (9, [10, 11]), (10, [0, 1, 4, 12, 13]), (11, [0, 1, 4, 12, 13]), (12, [0, 1, 4, 12, 13]), (13, [0, 1, 4, 12, 13, 120]), (14, [0, 1, 4, 12, 13]), (15, [0, 1, 4, 12, 13, 139]), (16, [0, 1, 4, 12, 13]), (17, [0, 1, 4, 12, 13, 144]), (18, [0, 1, 4, 12, 13]), (19, [0, 1, 4, 12, 13]), (20, [0, 1, 4, 12, 13]), (21, [13]), (22, [10, 11]), (100000, [0, 1, 4, 12, 13]), (100003, [0, 1, 4, 12, 13]), (100005, [0, 1, 4, 12, 13]), (100013, [0, 1, 4, 12, 13]), (100015, [0, 1, 4, 12, 13])]),
(191, [(0, [0]), (1, [0, 3]), (2, [0, 3, 8]), (3, [0, 3]), (4, [0, 3, 4]), (5, [0, 3, 36]), (6, [2]), (7, [2]), (100002, [0, 3])]),
(192, [(0, [0, 1, 2, 3, 4]), (1, [1, 2, 3, 22]), (2, [1, 2]), (3, [10, 11]), (4, [10, 11])]),
(193, [(0, [0, 2, 3, 4, 10]), (1, [0, 2, 3, 4, 10, 11]), (2, [0, 2, 3, 4, 10, 11, 18]), (3, [0, 2, 3, 4, 10, 11, 40]), (4, [0, 2, 3, 4, 10, 11]), (5, [0, 2, 3, 4, 10, 11, 58]), (6, [0, 2, 3, 4, 11]), (7, [0, 2, 3, 4, 10]), (100001, [0, 2, 3, 4, 10])]),
(194, [(0, [0, 1, 2, 3]), (1, [8])]),
(195, [(0, [0, 1, 2, 3, 4, 5]), (1, [0, 1, 2, 3, 4, 5]), (2, [0, 1, 2, 4, 5]), (3, [2]), (4, [12])]),
(196, [(0, [0, 1, 2, 3, 4]), (1, [1, 2, 3, 22]), (2, [1, 2]), (3, [10, 11]), (4, [10, 11])])]
/-- Functions of the library, by their contracts. -/
noncomputable def extF (f : FuncId) : Option (List DV → DHeap → Option (DV × DHeap)) :=
  if f = 119 then some indexF else
  if f = 96 then some compF else
  if f = 98 then some joinF else
  if f = 138 then some (growF 2) else
  if f = 63 then some cloneF else
  if f = 117 then some (namesF Tryz.prog 67 148 149 parentP lastP Lib.compareBytes) else
  if f = 68 then some (keysF Tryz.prog 101 70 ordP) else
  if f = 40 then some (keysIF 73) else
  if f = 36 then some cloneF else
  if f = 57 then some (cloneLF 1) else
  if f = 15 then some mclF else
  none
/-- Functions that look into the heap that is there. -/
def onHeap : List FuncId := [
  107, 139, 108,
  
  31,
  35,
  62,
  61,
  88,
  89,
  90,
  91,
  92,
  58,
  34,
  38,
  39,
  69,
  80,
  81,
  112,
  13,
  18,
  14,
  19,
  20,
  41,
  17,
  1000000]
/-- Functions behind which what they made is forgotten. -/
def gcs : List FuncId := [
  34,
  39,
  20,
  1000000]
noncomputable def cfg : Cfg where
  pure f := !(onHeap.contains f)
  esc f s := match escT.lookup f with | some l => l.contains s | none => false
  xfer f s := match xferT.lookup f with | some l => l.contains s | none => false
  keep f id := match keepT.lookup f with | some l => l.lookup id | none => none
  ext := extF
  gc f := gcs.contains f
/-- The settings with those functions of the library alone that draw nothing back. -/
def extA (f : FuncId) : Option (List DV → DHeap → Option (DV × DHeap)) :=
  if f = 119 then some indexF else
  if f = 96 then some compF else
  none
noncomputable def cfgA : Cfg := { cfg with ext := extA }
end Go.DS

/-
  Walks: paths.name, paths.split, strings.CutPrefix.
-/
namespace Go.DS
open Go Go.Proofs
set_option maxRecDepth 100000
set_option linter.unusedVariables false
set_option linter.unusedSimpArgs false
@[go_sem] theorem ok119 : calleeOK Tryz.prog 119 = true := by kernel_rfl
@[go_sem] theorem ex119 : (cfg.ext 119).isSome = true := rfl
@[go_sem] theorem ok96 : calleeOK Tryz.prog 96 = true := by kernel_rfl
@[go_sem] theorem ex96 : (cfg.ext 96).isSome = true := rfl
@[go_sem] theorem ok98 : calleeOK Tryz.prog 98 = true := by kernel_rfl
@[go_sem] theorem ex98 : (cfg.ext 98).isSome = true := rfl
def cd175 : Cd := .seq (R [cb 4 (.tk (.c (kb false)))] [0, 1]) (.seq (R [c0 5 (.mv (.s 0)), c0 6 (.len 0 (.s 5)), c0 7 (.mv (.s 1)), c0 8 (.len 0 (.s 7)), cb 9 (.bin .geq .any (.s 6) (.s 8)), cb 10 (.mv (.s 9)), cg 11 10 true (.mv (.s 0)), cg 12 10 true (.mv (.s 1)), cg 13 10 true (.len 0 (.s 12)), cg 14 10 true (.ss (.s 11) none (some (.s 13))), cg 15 10 true (.mv (.s 1)), ch 16 10 true (.bin .eql .any (.s 14) (.s 15)), cb 17 (.pick (.s 10) (.s 16) (.c (kb false))), cb 4 (.tk (.s 17))] [4]) (.ret))
theorem fun175 : Fun Tryz.prog cfg 175 18 cd175 [.s 4] := ⟨rfl, Tryz.f175, _, Tryz.func175, rfl, rfl, by kernel_rfl, by kernel_rfl⟩
@[go_sem] theorem ok175 : calleeOK Tryz.prog 175 = true := by kernel_rfl
@[go_sem] theorem ex175 : (cfg.ext 175).isSome = false := rfl
def cd150 : Cd := .seq (R [c0 4 (.tk (.c (ks []))), cb 5 (.tk (.c (kb false)))] [0, 1]) (.seq (.seq (R [c0 6 (.mv (.s 0)), c0 7 (.mv (.s 1)), cb 8 (.call none (.c (kf 175)) [(.s 6), (.s 7)]), cb 9 (.un .not (.s 8))] [0, 1, 9]) (.ite (.s 9) (.seq (R [c0 10 (.tk (.s 0)), c0 4 (.tk (.s 10)), cb 5 (.tk (.c (kb false)))] [4, 5]) (.ret)) (.skip))) (.seq (R [c0 11 (.mv (.s 0)), c0 12 (.mv (.s 1)), c0 13 (.len 0 (.s 12)), c0 14 (.ss (.s 11) (some (.s 13)) none), c0 4 (.tk (.s 14)), cb 5 (.tk (.c (kb true)))] [4, 5]) (.ret)))
theorem fun150 : Fun Tryz.prog cfg 150 15 cd150 [.s 4, .s 5] := ⟨rfl, Tryz.f150, _, Tryz.func150, rfl, rfl, by kernel_rfl, by kernel_rfl⟩
@[go_sem] theorem ok150 : calleeOK Tryz.prog 150 = true := by kernel_rfl
@[go_sem] theorem ex150 : (cfg.ext 150).isSome = false := rfl
def cd118 : Cd := .seq (R [c0 4 (.tk (.c (ks []))), cb 5 (.tk (.c (kb false)))] [0, 1]) (.seq (R [c0 6 (.mv (.s 0)), c0 7 (.mv (.s 1)), c0 8 (.call none (.c (kf 150)) [(.s 6), (.s 7)]), c0 9 (.exh (.s 8)), cb 10 (.ext (.s 8) 1), c0 4 (.tk (.s 9)), cb 5 (.tk (.s 10))] [4, 5]) (.ret))
theorem fun118 : Fun Tryz.prog cfg 118 11 cd118 [.s 4, .s 5] := ⟨rfl, Tryz.f118, _, Tryz.func118, rfl, rfl, by kernel_rfl, by kernel_rfl⟩
@[go_sem] theorem ok118 : calleeOK Tryz.prog 118 = true := by kernel_rfl
@[go_sem] theorem ex118 : (cfg.ext 118).isSome = false := rfl
def cd120 : Cd := .seq (R [cb 2 (.tk (.c (kb false)))] [0]) (.seq (.seq (R [c0 5 (.mv (.s 0)), c0 6 (.len 0 (.s 5)), c0 7 (.mv (.c (ki .i64 0)))] [0, 6, 7]) (.block 0 (LP [0, 6, 7] (.seq (R [cb 8 (.bin .lss .any (.s 7) (.s 6))] [0, 6, 7, 8]) (.seq (.ite (.s 8) (.skip) (.exit 0)) (.seq (.block 1 (.seq (R [c0 9 (.tk (.s 7)), c0 3 (.tk (.s 9))] [0, 3, 6, 7]) (.seq (R [c0 10 (.mv (.s 0)), c0 11 (.mv (.s 3)), c0 12 (.ixs (.s 10) (.s 11)), c0 4 (.tk (.s 12))] [0, 4, 6, 7]) (.block 2 (.seq (.seq (R [c0 14 (.mv (.s 4)), cb 15 (.bin .leq .any (.c (ki .u8 97)) (.s 14)), cb 16 (.mv (.s 15)), cg 17 16 true (.mv (.s 4)), ch 18 16 true (.bin .leq .any (.s 17) (.c (ki .u8 122))), cb 19 (.pick (.s 16) (.s 18) (.c (kb false))), cb 13 (.tk (.s 19))] [0, 4, 6, 7, 13]) (.ite (.s 13) (.skip) (.seq (R [c0 20 (.mv (.s 4)), cb 21 (.bin .leq .any (.c (ki .u8 48)) (.s 20)), cb 22 (.mv (.s 21)), cg 23 22 true (.mv (.s 4)), ch 24 22 true (.bin .leq .any (.s 23) (.c (ki .u8 57))), cb 25 (.pick (.s 22) (.s 24) (.c (kb false))), cb 13 (.tk (.s 25))] [0, 4, 6, 7, 13]) (.ite (.s 13) (.skip) (.seq (R [c0 26 (.mv (.s 4)), cb 27 (.bin .eql .any (.s 26) (.c (ki .u8 45))), cb 13 (.tk (.s 27))] [0, 4, 6, 7, 13]) (.ite (.s 13) (.skip) (R [c0 28 (.mv (.s 4)), cb 29 (.bin .eql .any (.s 28) (.c (ki .u8 95))), cb 13 (.tk (.s 29))] [0, 6, 7, 13]))))))) (.ite (.s 13) (.skip) (.seq (R [cb 2 (.tk (.c (kb false)))] [2]) (.ret)))))))) (R [c0 30 (.bin .add .any (.s 7) (.c (ki .i64 1))), c0 7 (.mv (.s 30))] [0, 6, 7]))))))) (.seq (R [c0 31 (.mv (.s 0)), c0 32 (.len 0 (.s 31)), cb 33 (.bin .lss .any (.c (ki .i64 0)) (.s 32)), cb 34 (.mv (.s 33)), cg 35 34 true (.mv (.s 0)), cg 36 34 true (.len 0 (.s 35)), ch 37 34 true (.bin .leq .any (.s 36) (.c (ki .i64 16))), cb 38 (.pick (.s 34) (.s 37) (.c (kb false))), cb 2 (.tk (.s 38))] [2]) (.ret)))
theorem fun120 : Fun Tryz.prog cfg 120 39 cd120 [.s 2] := ⟨rfl, Tryz.f120, _, Tryz.func120, rfl, rfl, by kernel_rfl, by kernel_rfl⟩
@[go_sem] theorem ok120 : calleeOK Tryz.prog 120 = true := by kernel_rfl
@[go_sem] theorem ex120 : (cfg.ext 120).isSome = false := rfl
def cd94 : Cd := .seq (R [c0 2 (.tk (.c (kn 1))), cb 3 (.tk (.c (kb false)))] [0]) (.scope (.seq (.seq (R [c0 8 (.mv (.s 0)), cb 9 (.bin .eql .any (.s 8) (.c (ks [47])))] [0, 9]) (.ite (.s 9) (.seq (R [c0 2 (.tk (.c (kn 1))), cb 3 (.tk (.c (kb true)))] [2, 3]) (.ret)) (.skip))) (.seq (R [c0 4 (.tk (.c (kn 1)))] [0, 4]) (.seq (.skip) (.seq (.block 0 (LP [0, 4] (.seq (.seq (R [c0 10 (.mv (.s 0)), cb 11 (.bin .neq .any (.s 10) (.c (ks [])))] [0, 4, 11]) (.ite (.s 11) (.skip) (.exit 0))) (.block 1 (.seq (R [c0 13 (.mv (.s 0)), c0 14 (.call none (.c (kf 118)) [(.s 13), (.c (ks [47]))]), c0 12 (.tk (.s 14)), c0 15 (.exh (.s 12)), cb 16 (.ext (.s 12) 1), c0 5 (.tk (.s 15)), cb 6 (.tk (.s 16))] [4, 5, 6]) (.seq (.seq (R [cb 17 (.mv (.s 6)), cb 18 (.un .not (.s 17))] [4, 5, 18]) (.ite (.s 18) (.seq (R [c0 2 (.tk (.c (kn 1))), cb 3 (.tk (.c (kb false)))] [2, 3]) (.ret)) (.skip))) (.seq (R [c0 19 (.mv (.s 5)), c0 20 (.call none (.c (kf 119)) [(.s 19), (.c (ki .u8 47))]), c0 7 (.tk (.s 20))] [4, 5, 7]) (.seq (.seq (R [c0 21 (.mv (.s 7)), cb 22 (.bin .lss .any (.s 21) (.c (ki .i64 0)))] [4, 5, 7, 22]) (.ite (.s 22) (R [c0 23 (.mv (.s 5)), c0 24 (.len 0 (.s 23)), c0 7 (.tk (.s 24))] [4, 5, 7]) (.skip))) (.seq (R [c0 25 (.tk (.s 4)), c0 26 (.mv (.s 5)), c0 27 (.mv (.s 7)), c0 28 (.ss (.s 26) none (some (.s 27))), c0 29 (.bsl 1 [(.s 28)]), c0 30 (.app 1 18 true (.s 25) (.s 29)), c0 4 (.tk (.s 30))] [4, 5, 7]) (.seq (R [c0 31 (.mv (.s 5)), c0 32 (.mv (.s 7)), c0 33 (.ss (.s 31) (some (.s 32)) none), c0 0 (.tk (.s 33))] [0, 4]) (.seq (R [c0 34 (.mv (.s 4)), c0 35 (.len 1 (.s 34)), cb 36 (.bin .gtr .any (.s 35) (.c (ki .i64 8))), cb 37 (.mv (.s 36)), cg 38 37 false (.mv (.s 4)), cg 39 37 false (.mv (.s 4)), cg 40 37 false (.len 1 (.s 39)), cg 41 37 false (.bin .sub .any (.s 40) (.c (ki .i64 1))), cg 42 37 false (.ixp 1 (.s 38) (.s 41)), cg 43 37 false (.ld false 1 (.s 42)), ch 44 37 false (.call none (.c (kf 120)) [(.s 43)]), ch 45 37 false (.un .not (.s 44)), cb 46 (.pick (.s 37) (.c (kb true)) (.s 45))] [0, 4, 46]) (.ite (.s 46) (.seq (R [c0 4 (.tk (.c (kn 1)))] [4]) (.exit 0)) (.skip))))))))))))) (.seq (R [c0 47 (.tk (.s 4)), c0 48 (.mv (.s 4)), c0 49 (.len 1 (.s 48)), cb 50 (.bin .gtr .any (.s 49) (.c (ki .i64 0))), c0 2 (.tk (.s 47)), cb 3 (.tk (.s 50))] [2, 3]) (.ret)))))))
theorem fun94 : Fun Tryz.prog cfg 94 51 cd94 [.s 2, .s 3] := ⟨rfl, Tryz.f94, _, Tryz.func94, rfl, rfl, by kernel_rfl, by kernel_rfl⟩
@[go_sem] theorem ok94 : calleeOK Tryz.prog 94 = true := by kernel_rfl
@[go_sem] theorem ex94 : (cfg.ext 94).isSome = false := rfl
variable {h : DHeap}
@[go_sem] theorem index_lim (s : Str) : lim Tryz.prog cfg 119 [.sc (.string (mkB s)), .sc (.int .u8 47)] h = some (.sc (.int .i64 (if aft s = [] then -1 else ((seg s).length : Int))), h) := by
  refine lim_ext rfl ?_ rfl
  show some (DV.sc (.int .i64 (Lib.indexByte s 47)), h) = _
  rw [index_lt]
theorem isPrefixOf_take (u s : Str) : u.isPrefixOf s = decide (s.take u.length = u) := by
  induction u generalizing s with
  | nil => simp
  | cons c u ih =>
    cases s with
    | nil => simp
    | cons d s => simp only [List.isPrefixOf, List.length_cons, List.take_succ_cons, List.cons.injEq, Bool.decide_and, ih]; congr 1; rw [Bool.eq_iff_iff, beq_iff_eq, decide_eq_true_iff]; exact eq_comm
@[go_sem] theorem hasPrefix_lim (s u : Str) : lim Tryz.prog cfg 175 [.sc (.string (mkB s)), .sc (.string (mkB u))] h = some (.sc (.bool (u.isPrefixOf s)), h) := by
  refine lim_funp fun175 rfl (by simp) rfl rfl ?_
  delta cd175
  simp -implicitDefEqProofs -dsimp only [go_sem]
  rw [isPrefixOf_take]
  refine ⟨fun h1 => ⟨by omega, by omega, fun h2 => by simp [h2], fun h2 => by simp [h2]⟩, fun h1 => ?_⟩
  have : ¬ (s.take u.length = u) := fun e => by have := congrArg List.length e; simp at this; omega
  simp [this]
@[go_sem] theorem cutPrefix0_lim (s u : Str) : lim Tryz.prog cfg 150 [.sc (.string (mkB s)), .sc (.string (mkB u))] h = some (.tup [.sc (.string (mkB (if u.isPrefixOf s = true then s.drop u.length else s))), .sc (.bool (u.isPrefixOf s))], h) := by
  refine lim_funp fun150 rfl (by simp) rfl rfl ?_
  delta cd150
  simp -implicitDefEqProofs -dsimp only [go_sem]
  refine ⟨fun h1 => ⟨by omega, ?_, by simp [h1]⟩, fun h1 => by simp [h1]⟩
  rw [isPrefixOf_take] at h1
  have := congrArg List.length (of_decide_eq_true h1)
  simp at this; omega
@[go_sem] theorem cutPrefix_lim (s u : Str) : lim Tryz.prog cfg 118 [.sc (.string (mkB s)), .sc (.string (mkB u))] h = some (.tup [.sc (.string (mkB (if u.isPrefixOf s = true then s.drop u.length else s))), .sc (.bool (u.isPrefixOf s))], h) := by
  refine lim_funp fun118 rfl (by simp) rfl rfl ?_
  delta cd118
  simp -implicitDefEqProofs -dsimp only [go_sem]
  refine ⟨fun h1 => by simp [h1], fun h1 => by simp [h1]⟩

theorem name_lim (s : Str) (hs : s.length ≤ 1099511627776) : lim Tryz.prog cfg 120 [.sc (.string (mkB s))] h = some (.sc (.bool (nameOK s)), h) := by
  refine lim_funp fun120 rfl (by simp) rfl rfl ?_
  delta cd120
  simp -implicitDefEqProofs -dsimp only [go_sem]
  refine wp_for (σ := Nat) (fun k => [(0, .sc (.string (mkB s))), (6, .sc (.int .i64 (s.length : Nat))), (7, .sc (.int .i64 (k : Nat)))]) (fun _ => []) (fun k => s.length - k) (fun k => k ≤ s.length ∧ (s.take k).all okc = true) 0 (by simp) rfl rfl ?_
  rintro k ⟨hk, hj⟩ N hN
  simp -implicitDefEqProofs -dsimp only [go_sem]
  refine ⟨fun h1 => ?_, fun h1 => ?_⟩
  · repeat' first | intro _ | refine And.intro ?_ ?_ | refine Exists.intro (by omega) ?_
    all_goals first
      | exact hN (k + 1) _ (by omega) ⟨by omega, take_all (by omega) hj ((okc_iff _).2 (by omega))⟩ (by simp -implicitDefEqProofs -dsimp only [go_sem, wrap_succ (show k < 9223372036854775807 by omega)])
      | (have := not_all (p := okc) (l := s) (k := k) (by omega) ((okc_not _).2 (by omega))
         simp [nameOK, this])
  · have : k = s.length := by omega
    subst this
    rw [List.take_length] at hj
    simp [nameOK, hj]
    grind

theorem runP_nil (l : List Str) : runP [] l = if l = [] then none else some l := by unfold runP; rfl
theorem runP_cons (c : UInt8) (r : Str) (l : List Str) : runP (c :: r) l = if c ≠ 47 then none else if 8 ≤ l.length ∨ nameOK (seg r) = false then none else runP (aft r) (l ++ [seg r]) := by rw [runP]
/-- What split hands back. -/
def splitV (p : Str) : DV := match parse p with
  | some l => .tup [.list true 1 (ts l), .sc (.bool true)]
  | none => .tup [.list true 1 (ts []), .sc (.bool false)]
theorem split_lim (p : Str) (hs : p.length ≤ 1099511627776) : lim Tryz.prog cfg 94 [.sc (.string (mkB p))] h = some (splitV p, h) := by
  refine lim_funp fun94 rfl (by simp) rfl ?_ ?_
  · unfold splitV
    cases parse p <;> simp [heapFree, heapFree.all, free_ts]
  delta cd94
  simp -implicitDefEqProofs -dsimp only [go_sem]
  refine ⟨fun h1 => ?_, fun h1 => ?_⟩
  · simp [splitV, parse, h1, ts]
  refine wp_for (σ := Str × List Str) (fun x => [(0, .sc (.string (mkB x.1))), (4, .list true 1 (ts x.2))]) (fun _ => []) (fun x => x.1.length) (fun x => runP x.1 x.2 = parse p ∧ x.1.length ≤ p.length ∧ x.2.length ≤ 8) (p, []) (by simp [parse, h1]) rfl rfl ?_
  rintro ⟨q, l⟩ ⟨hr, hq, hl⟩ N hN
  dsimp only at hr hq hl
  match q, hr, hq, hN with
  | [], hr, hq, hN =>
    simp -implicitDefEqProofs -dsimp only [go_sem]
    rw [runP_nil] at hr
    by_cases hl0 : l = []
    · subst hl0; simp [splitV, ← hr, ts]
    · have := List.length_pos_iff.2 hl0
      simp only [if_neg hl0] at hr
      simp only [splitV, ← hr, true_and]
      exact ⟨fun _ => trivial, fun h => by omega⟩
  | c :: r, hr, hq, hN =>
    rw [runP_cons] at hr
    have hq' : r.length + 1 ≤ p.length := hq
    have hse := seg_aft r
    have hse' : (seg r).length + (aft r).length = r.length := by rw [← List.length_append, hse]
    have hn := name_lim (h := []) (seg r) (by omega)
    by_cases hc : c = 47
    · subst hc
      simp only [ne_eq, not_true_eq_false, if_false] at hr
      have hw : ∀ x : Str, IntKind.wrap .i64 (((l ++ [x]).length : Int) - 1) = (l.length : Int) := fun x => by simp; rw [wrap64 (by omega) (by omega)]
      have hpre : List.isPrefixOf [47] (47 :: r) = true := rfl
      have hf : (DV.tup [DV.list true 1 [], DV.sc (Value.bool false)] = splitV p) ↔ parse p = none := by
        unfold splitV
        cases parse p <;> simp [ts]
      have hneg : ((-1 : Int) < 0) = True := by simp
      by_cases ha : aft r = []
      · have hs1 : seg r = r := by rw [ha, List.append_nil] at hse; exact hse
        rw [hs1] at hn hr
        simp -implicitDefEqProofs -dsimp only [go_sem, hpre, ha, hneg, List.take_length, hw, idxP_last, hn, hf]
        simp only [List.length_append, List.length_cons, List.length_nil] at *
        refine ⟨by omega, by omega, by unfold maxLenD; omega, by omega, by omega, fun h8 => ?_, fun h8 => ⟨fun hk => ?_, fun hk => ?_⟩⟩
        · rw [← hr, if_pos (.inl (by omega))]
        · refine hN (aft r, l ++ [r]) _ ?_ ⟨?_, ?_, ?_⟩ ?_
          · simp only; simp [ha]
          · rw [← hr, if_neg (by simp [hk]; omega)]
          · simp only; omega
          · simp; omega
          · simp -implicitDefEqProofs -dsimp only [go_sem]
            simp [ha]
        · rw [← hr, if_pos (.inr hk)]
      · have hs1 : r.take (seg r).length = seg r := by
          have := List.take_left (l₁ := seg r) (l₂ := aft r); rwa [hse] at this
        have hs2 : r.drop (seg r).length = aft r := by
          have := List.drop_left (l₁ := seg r) (l₂ := aft r); rwa [hse] at this
        have hz : (((seg r).length : Int) < 0) = False := by simp
        simp -implicitDefEqProofs -dsimp only [go_sem, hpre, ha, hz, List.take_length, hs1, hs2, hw, idxP_last, hn, hf]
        simp only [List.length_append, List.length_cons, List.length_nil] at *
        refine ⟨by omega, by omega, by unfold maxLenD; omega, by omega, by omega, fun h8 => ?_, fun h8 => ⟨fun hk => ?_, fun hk => ?_⟩⟩
        · rw [← hr, if_pos (.inl (by omega))]
        · refine hN (aft r, l ++ [seg r]) _ ?_ ⟨?_, ?_, ?_⟩ ?_
          · simp only; omega
          · rw [← hr, if_neg (by simp [hk]; omega)]
          · simp only; omega
          · simp; omega
          · simp -implicitDefEqProofs -dsimp only [go_sem]
        · rw [← hr, if_pos (.inr hk)]
    · have hpre : List.isPrefixOf [47] (c :: r) = false := by simp [List.isPrefixOf, Ne.symm hc]
      simp only [ne_eq, hc, not_false_eq_true, if_true] at hr
      simp -implicitDefEqProofs -dsimp only [go_sem, hpre]
      simp [splitV, ← hr, ts]
end Go.DS

/-
  Walks: slices.Equal, slices.CompareFunc, slices.ContainsFunc, strings.Compare, strings.Join, paths.Of.
-/
namespace Go.DS
open Go Go.Proofs
set_option maxRecDepth 100000
set_option linter.unusedVariables false
set_option linter.unusedSimpArgs false
def cd95 : Cd := .seq (R [c0 6 (.tk (.c (ki .i64 0)))] [0, 1, 2]) (.seq (.seq (R [c0 11 (.mv (.s 0)), c0 12 (.len 1 (.s 11)), c0 13 (.mv (.c (ki .i64 0)))] [0, 1, 2, 11, 12, 13]) (.block 0 (LP [0, 1, 2, 11, 12, 13] (.seq (R [c0 14 (.bin .lss .any (.s 13) (.s 12))] [0, 1, 2, 11, 12, 13, 14]) (.seq (.ite (.s 14) (.skip) (.exit 0)) (.seq (.block 1 (.seq (R [c0 15 (.tk (.s 13)), c0 16 (.ixp 1 (.s 11) (.s 13)), c0 17 (.ldx true false 1 (.s 16)), c0 7 (.tk (.s 15)), c0 8 (.tk (.s 17))] [0, 1, 2, 7, 8, 11, 12, 13]) (.seq (.seq (R [c0 18 (.mv (.s 7)), c0 19 (.mv (.s 1)), c0 20 (.len 1 (.s 19)), cb 21 (.bin .geq .any (.s 18) (.s 20))] [0, 1, 2, 7, 8, 11, 12, 13, 21]) (.ite (.s 21) (.seq (R [c0 6 (.tk (.c (ki .i64 1)))] [6]) (.ret)) (.skip))) (.seq (R [c0 22 (.mv (.s 1)), c0 23 (.mv (.s 7)), c0 24 (.ixp 1 (.s 22) (.s 23)), c0 25 (.ldx true false 1 (.s 24)), c0 9 (.tk (.s 25))] [0, 1, 2, 8, 9, 11, 12, 13]) (.seq (R [c0 26 (.mv (.s 2)), c0 27 (.mv (.s 8)), c0 28 (.mv (.s 9)), c0 29 (.call none (.s 26) [(.s 27), (.s 28)]), c0 10 (.tk (.s 29))] [0, 1, 2, 10, 11, 12, 13]) (.seq (R [c0 30 (.mv (.s 10)), cb 31 (.bin .neq .any (.s 30) (.c (ki .i64 0)))] [0, 1, 2, 10, 11, 12, 13, 31]) (.ite (.s 31) (.seq (R [c0 32 (.tk (.s 10)), c0 6 (.tk (.s 32))] [6]) (.ret)) (.skip)))))))) (R [c0 33 (.bin .add .any (.s 13) (.c (ki .i64 1))), c0 13 (.mv (.s 33))] [0, 1, 2, 11, 12, 13]))))))) (.seq (.seq (R [c0 34 (.mv (.s 0)), c0 35 (.len 1 (.s 34)), c0 36 (.mv (.s 1)), c0 37 (.len 1 (.s 36)), cb 38 (.bin .lss .any (.s 35) (.s 37))] [38]) (.ite (.s 38) (.seq (R [c0 6 (.tk (.c (ki .i64 (-1))))] [6]) (.ret)) (.skip))) (.seq (R [c0 6 (.tk (.c (ki .i64 0)))] [6]) (.ret))))
theorem fun95 : Fun Tryz.prog cfg 95 39 cd95 [.s 6] := ⟨rfl, Tryz.f95, _, Tryz.func95, rfl, rfl, by kernel_rfl, by kernel_rfl⟩
@[go_sem] theorem ok95 : calleeOK Tryz.prog 95 = true := by kernel_rfl
@[go_sem] theorem ex95 : (cfg.ext 95).isSome = false := rfl
variable {h : DHeap}
/-- A list of texts, as a value. -/
abbrev vts (own : Bool) (l : List Str) : DV := .list own 1 (ts l)
abbrev vs (s : Str) : DV := .sc (.string (mkB s))
abbrev vi (n : Int) : DV := .sc (.int .i64 n)
abbrev vb (b : Bool) : DV := .sc (.bool b)

@[go_sem] theorem compare_lim (s u : Str) : lim Tryz.prog cfg 96 [vs s, vs u] h = some (vi (Lib.compareBytes s u), h) := lim_ext rfl rfl rfl
theorem join_lim (own : Bool) (l : List Str) (u : Str) (h1 : l.length ≤ 1048576) (h2 : (Lib.join l u).length ≤ 1099511627776) : lim Tryz.prog cfg 98 [vts own l, vs u] h = some (vs (Lib.join l u), h) := by
  refine lim_ext rfl ?_ rfl
  show joinF [vts own l, vs u] h = _
  simp only [joinF, strsOf_ts]
  exact if_pos ⟨h1, h2⟩

theorem compareFunc_lim (o1 o2 : Bool) (l m : List Str) (k : FuncId) (fs cs : List DV) (F : Str → Str → Int) (hok : calleeOK Tryz.prog k = true) (hfs : heapFree.all fs = true) (hcs : heapFree.all cs = true)
    (hF : ∀ s u, lim Tryz.prog cfg k (fs ++ [vs s, vs u] ++ cs) [] = some (vi (F s u), [])) (hl : l.length ≤ 1099511627776) :
    lim Tryz.prog cfg 95 [vts o1 l, vts o2 m, .fn (.func k) fs cs] h = some (vi (cmpF F l m), h) := by
  refine lim_funp fun95 rfl (by simp) (by simp [heapFree, free_ts, hfs, hcs]) rfl ?_
  delta cd95
  simp -implicitDefEqProofs -dsimp only [go_sem]
  refine wp_for (σ := Nat) (fun i => [(0, vts false l), (1, vts false m), (2, .fn (.func k) fs cs), (11, vts false l), (12, vi (l.length : Nat)), (13, vi (i : Nat))]) (fun _ => []) (fun i => l.length - i) (fun i => i ≤ l.length ∧ i ≤ m.length ∧ cmpF F l m = cmpF F (l.drop i) (m.drop i)) 0 (by simp) rfl rfl ?_
  rintro i ⟨hi, hm, hj⟩ N hN
  simp -implicitDefEqProofs -dsimp only [go_sem, hok, hF]
  have dl : ∀ hh : i < l.length, l.drop i = l[i] :: l.drop (i + 1) := fun hh => List.drop_eq_getElem_cons hh
  have dn : ∀ hh : m.length ≤ i, m.drop i = [] := fun hh => List.drop_eq_nil_of_le hh
  have dm : ∀ hh : i < m.length, m.drop i = m[i] :: m.drop (i + 1) := fun hh => List.drop_eq_getElem_cons hh
  refine ⟨fun h2 => ⟨by omega, fun h3 => ?_, fun h3 => ⟨by omega, fun h4 => ?_, fun h4 => ?_⟩⟩, fun h2 => ⟨fun h3 => ?_, fun h3 => ?_⟩⟩
  · rw [hj, dl (by omega), dn (by omega)]; rfl
  · refine hN (i + 1) _ (by omega) ⟨by omega, by omega, ?_⟩ (by simp -implicitDefEqProofs -dsimp only [go_sem, wrap_succ (show i < 9223372036854775807 by omega)])
    rw [hj, dl (by omega), dm (by omega), cmpF, if_neg (by simpa using h4)]
  · rw [hj, dl (by omega), dm (by omega), cmpF, if_pos (by simpa using h4)]
  · have : i = l.length := by omega
    subst this
    rw [hj, List.drop_length, dm (by omega)]; rfl
  · have : i = l.length := by omega
    subst this
    rw [hj, List.drop_length, dn (by omega)]; rfl

def idxF {α : Type} (F : α → Bool) (l : List α) : Int := match l.findIdx? F with
  | some i => i
  | none => -1
theorem idxF_ge {α : Type} (F : α → Bool) (l : List α) : decide (0 ≤ idxF F l) = l.any F := by
  unfold idxF
  cases hf : l.findIdx? F with
  | none =>
    rw [List.findIdx?_eq_none_iff] at hf
    have : l.any F = false := by rw [List.any_eq_false]; simpa using hf
    simp [this]
  | some i =>
    have : l.any F = true := by
      rw [List.any_eq_true]
      obtain ⟨h1, h2, _⟩ := List.findIdx?_eq_some_iff_getElem.1 hf
      exact ⟨_, List.getElem_mem h1, h2⟩
    simp [this]
/-- The path of names. -/
def okL (l : List Str) : Bool := decide (l.length ≤ 8) && l.all nameOK
theorem join_le (l : List Str) (h : ∀ s ∈ l, s.length ≤ 16) : (Lib.join l [47]).length ≤ 17 * l.length := by
  unfold Lib.join
  induction l with
  | nil => simp [List.intercalate]
  | cons a l ih =>
    have h1 := h a List.mem_cons_self
    have h2 := ih fun s hs => h s (List.mem_cons_of_mem _ hs)
    cases l with
    | nil => simp [List.intercalate]; omega
    | cons b l =>
      simp only [List.intercalate, List.intersperse_cons_cons, List.flatten_cons, List.length_append, List.length_cons, List.length_nil] at h2 ⊢
      omega
theorem nameOK_le {s : Str} (h : nameOK s = true) : s.length ≤ 16 := by
  simp [nameOK] at h; omega
def ofV (l : List Str) : DV := if okL l = true then .tup [vs (pathOf l), vi 0] else .tup [vs [], vi 1]
end Go.DS

/-
  Paths: what a path's text is to its names.
-/
namespace Go.DS
open Go

theorem seg_not {r : Str} : ∀ c ∈ seg r, c ≠ 47 := by
  intro c hc
  have := List.all_takeWhile (p := fun x : UInt8 => decide (x ≠ 47)) (l := r)
  rw [List.all_eq_true] at this
  simpa using this c hc
theorem aft_cases (r : Str) : aft r = [] ∨ ∃ r', aft r = 47 :: r' := by
  cases h : aft r with
  | nil => exact .inl rfl
  | cons c r' =>
    right
    have := List.head?_dropWhile_not (p := fun x : UInt8 => decide (x ≠ 47)) (l := r)
    unfold aft at h
    rw [h] at this
    simp at this
    exact ⟨r', by rw [this]⟩
/-- What is between the slashes. -/
def sp (r : Str) : List Str := match h : aft r with
  | [] => [r]
  | _ :: r' => seg r :: sp r'
termination_by r.length
decreasing_by have := aft_le r; rw [h] at this; simp at this; omega
theorem sp_nil {r : Str} (h : aft r = []) : sp r = [r] := by
  unfold sp; split <;> simp_all
theorem sp_cons {r r' : Str} {c : UInt8} (h : aft r = c :: r') : sp r = seg r :: sp r' := by
  rw [sp]; split <;> simp_all
theorem sp_ne (r : Str) : sp r ≠ [] := by
  rcases aft_cases r with h | ⟨r', h⟩
  · rw [sp_nil h]; simp
  · rw [sp_cons h]; simp
theorem seg_all {r : Str} (h : aft r = []) : seg r = r := by
  have := seg_aft r; rwa [h, List.append_nil] at this
theorem join_cons (a b : Str) (l : List Str) : Lib.join (a :: b :: l) [47] = a ++ 47 :: Lib.join (b :: l) [47] := by
  simp [Lib.join, List.intercalate, List.intersperse_cons_cons]
theorem join_one (a : Str) : Lib.join [a] [47] = a := by simp [Lib.join, List.intercalate]
theorem join_nil : Lib.join [] [47] = [] := by simp [Lib.join, List.intercalate]
theorem join_sp (r : Str) : Lib.join (sp r) [47] = r := by
  rcases aft_cases r with h | ⟨r', h⟩
  · rw [sp_nil h, join_one]
  · rw [sp_cons h]
    have ih := join_sp r'
    have hse := seg_aft r
    cases hs : sp r' with
    | nil => exact absurd hs (sp_ne r')
    | cons b l => rw [join_cons, ← hs, ih, ← h, hse]
termination_by r.length
decreasing_by have := aft_le r; rw [h] at this; simp at this; omega
theorem seg_app {a r : Str} (h : ∀ c ∈ a, c ≠ 47) : seg (a ++ 47 :: r) = a ∧ aft (a ++ 47 :: r) = 47 :: r := by
  unfold seg aft
  constructor
  · rw [List.takeWhile_append_of_pos (by simpa using h)]; simp
  · rw [List.dropWhile_append_of_pos (by simpa using h)]; simp
theorem aft_none {a : Str} (h : ∀ c ∈ a, c ≠ 47) : aft a = [] := by
  unfold aft
  induction a with
  | nil => rfl
  | cons c a ih =>
    rw [List.dropWhile_cons_of_pos (by simpa using h c List.mem_cons_self)]
    exact ih fun d hd => h d (List.mem_cons_of_mem _ hd)
theorem sp_join : ∀ (l : List Str), l ≠ [] → (∀ s ∈ l, ∀ c ∈ s, c ≠ 47) → sp (Lib.join l [47]) = l
  | [], h, _ => absurd rfl h
  | [a], _, h => by rw [join_one, sp_nil (aft_none (h a List.mem_cons_self))]
  | a :: b :: l, _, h => by
    have ha := seg_app (a := a) (r := Lib.join (b :: l) [47]) (h a List.mem_cons_self)
    rw [join_cons, sp_cons ha.2, ha.1, sp_join (b :: l) (by simp) fun s hs => h s (List.mem_cons_of_mem _ hs)]
theorem nameOK_not {s : Str} (h : nameOK s = true) : ∀ c ∈ s, c ≠ 47 := by
  intro c hc e
  simp only [nameOK, Bool.and_eq_true, List.all_eq_true] at h
  have := h.1 c hc
  rw [okc_iff] at this
  subst e
  simp at this

theorem runP_sp (r : Str) (l : List Str) : runP (47 :: r) l = if (l ++ sp r).length ≤ 8 ∧ (sp r).all nameOK = true then some (l ++ sp r) else none := by
  rw [runP_cons]
  simp only [ne_eq, not_true_eq_false, if_false]
  rcases aft_cases r with h | ⟨r', h⟩
  · rw [h, runP_nil, sp_nil h, seg_all h]
    simp only [List.length_append, List.length_cons, List.length_nil, List.all_cons, List.all_nil, Bool.and_true]
    by_cases h1 : 8 ≤ l.length ∨ nameOK r = false
    · rw [if_pos h1, if_neg]
      rcases h1 with h1 | h1
      · omega
      · simp [h1]
    · rw [if_neg h1, if_neg (by simp), if_pos]
      simp only [not_or, Bool.not_eq_false] at h1
      exact ⟨by omega, h1.2⟩
  · have ih := runP_sp r' (l ++ [seg r])
    rw [h, ih, sp_cons h]
    have hpos : 0 < (sp r').length := List.length_pos_iff.2 (sp_ne r')
    simp only [List.length_append, List.length_cons, List.length_nil, List.all_cons, List.append_assoc, List.cons_append, List.nil_append, Bool.and_eq_true]
    by_cases h1 : 8 ≤ l.length ∨ nameOK (seg r) = false
    · rw [if_pos h1, if_neg]
      rcases h1 with h1 | h1
      · omega
      · simp [h1]
    · rw [if_neg h1]
      simp only [not_or, Bool.not_eq_false] at h1
      simp only [h1.2, true_and]
termination_by r.length
decreasing_by have := aft_le r; rw [h] at this; simp at this; omega

theorem parse_cons {r : Str} (h : r ≠ []) : parse (47 :: r) = if okL (sp r) = true then some (sp r) else none := by
  unfold parse
  rw [if_neg (by simpa using h), runP_sp]
  simp only [okL, List.nil_append, Bool.and_eq_true, decide_eq_true_eq]
theorem parse_not {c : UInt8} {r : Str} (h : c ≠ 47) : parse (c :: r) = none := by
  unfold parse
  rw [if_neg (by simp [h]), runP_cons, if_pos h]
theorem parse_nil : parse [] = none := by
  unfold parse
  rw [if_neg (by simp), runP_nil, if_pos rfl]
theorem parse_root : parse [47] = some [] := by simp [parse]

theorem parse_some {p : Str} {l : List Str} (h : parse p = some l) : okL l = true ∧ p = pathOf l := by
  match p with
  | [] => rw [parse_nil] at h; cases h
  | c :: r =>
    by_cases hc : c = 47
    · subst hc
      by_cases hr : r = []
      · subst hr; rw [parse_root] at h; cases h; exact ⟨rfl, by simp [pathOf, join_nil]⟩
      · rw [parse_cons hr] at h
        split at h
        · cases h; exact ⟨by assumption, by rw [pathOf, join_sp]⟩
        · cases h
    · rw [parse_not hc] at h; cases h
theorem okL_names {l : List Str} (h : okL l = true) : l.length ≤ 8 ∧ ∀ s ∈ l, nameOK s = true := by
  simpa [okL] using h
theorem join_ne {l : List Str} (h : okL l = true) (h0 : l ≠ []) : Lib.join l [47] ≠ [] := by
  have := okL_names h
  match l, h0 with
  | [a], _ =>
    rw [join_one]
    intro e
    have := this.2 a List.mem_cons_self
    rw [e] at this
    simp [nameOK] at this
  | a :: b :: l, _ => rw [join_cons]; simp
theorem parse_pathOf {l : List Str} (h : okL l = true) : parse (pathOf l) = some l := by
  by_cases h0 : l = []
  · subst h0; simp [pathOf, join_nil, parse_root]
  · have hs := sp_join l h0 fun s hs => nameOK_not ((okL_names h).2 s hs)
    rw [pathOf, parse_cons (join_ne h h0), hs, if_pos h]

/-- The reference's cut. -/
def cutP (p : Str) : List Str := if p = [47] then [] else sp (p.drop 1)
theorem cut_some {p : Str} {l : List Str} (h : parse p = some l) : cutP p = l := by
  obtain ⟨h1, rfl⟩ := parse_some h
  unfold cutP
  by_cases h0 : l = []
  · subst h0; simp [pathOf, join_nil]
  · rw [if_neg (by simpa [pathOf] using join_ne h1 h0)]
    exact sp_join l h0 fun s hs => nameOK_not ((okL_names h1).2 s hs)
theorem valid_iff (p : Str) : (okL (cutP p) && decide (pathOf (cutP p) = p)) = (parse p).isSome := by
  cases h : parse p with
  | some l =>
    obtain ⟨h1, h2⟩ := parse_some h
    rw [cut_some h]
    simp [h1, ← h2]
  | none =>
    rw [Option.isSome_none, ← Bool.not_eq_true]
    intro h1
    simp only [Bool.and_eq_true, decide_eq_true_eq] at h1
    have := parse_pathOf h1.1
    rw [h1.2, h] at this
    cases this
theorem path_len {l : List Str} (h : okL l = true) : 1 ≤ (pathOf l).length ∧ (pathOf l).length ≤ 137 := by
  have h1 := okL_names h
  have := join_le l fun s hs => nameOK_le (h1.2 s hs)
  simp only [pathOf, List.length_cons]
  omega
end Go.DS

/-
  Walks: the functions of paths.
-/
namespace Go.DS
open Go Go.Proofs
set_option maxRecDepth 100000
set_option linter.unusedVariables false
set_option linter.unusedSimpArgs false
def cd93 : Cd := .seq (R [cb 2 (.tk (.c (kb false)))] [0]) (.seq (R [c0 6 (.mv (.s 0)), c0 7 (.call none (.c (kf 94)) [(.s 6)]), c0 5 (.tk (.s 7)), c0 8 (.exh (.s 5)), cb 9 (.ext (.s 5) 1), c0 3 (.tk (.s 8)), cb 4 (.tk (.s 9))] [4]) (.seq (R [cb 10 (.tk (.s 4)), cb 2 (.tk (.s 10))] [2]) (.ret)))
theorem fun93 : Fun Tryz.prog cfg 93 11 cd93 [.s 2] := ⟨rfl, Tryz.f93, _, Tryz.func93, rfl, rfl, by kernel_rfl, by kernel_rfl⟩
@[go_sem] theorem ok93 : calleeOK Tryz.prog 93 = true := by kernel_rfl
@[go_sem] theorem ex93 : (cfg.ext 93).isSome = false := rfl
def cd97 : Cd := .seq (R [c0 2 (.tk (.c (kn 1)))] [0]) (.seq (R [c0 6 (.mv (.s 0)), c0 7 (.call none (.c (kf 94)) [(.s 6)]), c0 5 (.tk (.s 7)), c0 8 (.exh (.s 5)), cb 9 (.ext (.s 5) 1), c0 3 (.tk (.s 8)), cb 4 (.tk (.s 9))] [3]) (.seq (R [c0 10 (.tk (.s 3)), c0 2 (.tk (.s 10))] [2]) (.ret)))
theorem fun97 : Fun Tryz.prog cfg 97 11 cd97 [.s 2] := ⟨rfl, Tryz.f97, _, Tryz.func97, rfl, rfl, by kernel_rfl, by kernel_rfl⟩
@[go_sem] theorem ok97 : calleeOK Tryz.prog 97 = true := by kernel_rfl
@[go_sem] theorem ex97 : (cfg.ext 97).isSome = false := rfl
def cd65 : Cd := .seq (R [c0 2 (.tk (.c (ki .i64 0)))] [0]) (.seq (R [c0 6 (.mv (.s 0)), c0 7 (.call none (.c (kf 94)) [(.s 6)]), c0 5 (.tk (.s 7)), c0 8 (.exh (.s 5)), cb 9 (.ext (.s 5) 1), c0 3 (.tk (.s 8)), cb 4 (.tk (.s 9))] [3, 4]) (.seq (.seq (R [cb 10 (.mv (.s 4)), cb 11 (.un .not (.s 10))] [3, 11]) (.ite (.s 11) (.seq (R [c0 2 (.tk (.c (ki .i64 (-1))))] [2]) (.ret)) (.skip))) (.seq (R [c0 12 (.mv (.s 3)), c0 13 (.len 1 (.s 12)), c0 2 (.tk (.s 13))] [2]) (.ret))))
theorem fun65 : Fun Tryz.prog cfg 65 14 cd65 [.s 2] := ⟨rfl, Tryz.f65, _, Tryz.func65, rfl, rfl, by kernel_rfl, by kernel_rfl⟩
@[go_sem] theorem ok65 : calleeOK Tryz.prog 65 = true := by kernel_rfl
@[go_sem] theorem ex65 : (cfg.ext 65).isSome = false := rfl
def cd67 : Cd := .seq (R [c0 2 (.tk (.c (ks [])))] [0]) (.seq (R [c0 4 (.mv (.s 0)), c0 5 (.call none (.c (kf 97)) [(.s 4)]), c0 3 (.tk (.s 5))] [3]) (.seq (.seq (R [c0 6 (.mv (.s 3)), c0 7 (.len 1 (.s 6)), cb 8 (.bin .eql .any (.s 7) (.c (ki .i64 0)))] [3, 8]) (.ite (.s 8) (.seq (R [c0 2 (.tk (.c (ks [])))] [2]) (.ret)) (.skip))) (.seq (R [c0 9 (.mv (.s 3)), c0 10 (.mv (.s 3)), c0 11 (.len 1 (.s 10)), c0 12 (.bin .sub .any (.s 11) (.c (ki .i64 1))), c0 13 (.sl 1 (.s 9) none (some (.s 12))), c0 14 (.call none (.c (kf 98)) [(.s 13), (.c (ks [47]))]), c0 15 (.bin .add .any (.c (ks [47])) (.s 14)), c0 2 (.tk (.s 15))] [2]) (.ret))))
theorem fun67 : Fun Tryz.prog cfg 67 16 cd67 [.s 2] := ⟨rfl, Tryz.f67, _, Tryz.func67, rfl, rfl, by kernel_rfl, by kernel_rfl⟩
@[go_sem] theorem ok67 : calleeOK Tryz.prog 67 = true := by kernel_rfl
@[go_sem] theorem ex67 : (cfg.ext 67).isSome = false := rfl
def cd148 : Cd := .seq (R [c0 2 (.tk (.c (ks [])))] [0]) (.seq (R [c0 4 (.mv (.s 0)), c0 5 (.call none (.c (kf 97)) [(.s 4)]), c0 3 (.tk (.s 5))] [3]) (.seq (.seq (R [c0 6 (.mv (.s 3)), c0 7 (.len 1 (.s 6)), cb 8 (.bin .eql .any (.s 7) (.c (ki .i64 0)))] [3, 8]) (.ite (.s 8) (.seq (R [c0 2 (.tk (.c (ks [])))] [2]) (.ret)) (.skip))) (.seq (R [c0 9 (.mv (.s 3)), c0 10 (.mv (.s 3)), c0 11 (.len 1 (.s 10)), c0 12 (.bin .sub .any (.s 11) (.c (ki .i64 1))), c0 13 (.ixp 1 (.s 9) (.s 12)), c0 14 (.ldx true false 1 (.s 13)), c0 2 (.tk (.s 14))] [2]) (.ret))))
theorem fun148 : Fun Tryz.prog cfg 148 15 cd148 [.s 2] := ⟨rfl, Tryz.f148, _, Tryz.func148, rfl, rfl, by kernel_rfl, by kernel_rfl⟩
@[go_sem] theorem ok148 : calleeOK Tryz.prog 148 = true := by kernel_rfl
@[go_sem] theorem ex148 : (cfg.ext 148).isSome = false := rfl
def cd66 : Cd := .seq (R [cb 4 (.tk (.c (kb false)))] [0, 1]) (.seq (R [c0 10 (.mv (.s 0)), c0 11 (.call none (.c (kf 94)) [(.s 10)]), c0 9 (.tk (.s 11)), c0 12 (.exh (.s 9)), cb 13 (.ext (.s 9) 1), c0 5 (.tk (.s 12)), cb 6 (.tk (.s 13))] [1, 5, 6]) (.seq (R [c0 15 (.mv (.s 1)), c0 16 (.call none (.c (kf 94)) [(.s 15)]), c0 14 (.tk (.s 16)), c0 17 (.exh (.s 14)), cb 18 (.ext (.s 14) 1), c0 7 (.tk (.s 17)), cb 8 (.tk (.s 18))] [5, 6, 7, 8]) (.seq (R [cb 19 (.mv (.s 6)), cb 20 (.mv (.s 19)), ch 21 20 true (.mv (.s 8)), cb 22 (.pick (.s 20) (.s 21) (.c (kb false))), cb 23 (.mv (.s 22)), cg 24 23 true (.mv (.s 5)), cg 25 23 true (.mv (.s 7)), cg 26 23 true (.call none (.c (kf 95)) [(.s 24), (.s 25), (.c (kf 96))]), ch 27 23 true (.bin .lss .any (.s 26) (.c (ki .i64 0))), cb 28 (.pick (.s 23) (.s 27) (.c (kb false))), cb 4 (.tk (.s 28))] [4]) (.ret))))
theorem fun66 : Fun Tryz.prog cfg 66 29 cd66 [.s 4] := ⟨rfl, Tryz.f66, _, Tryz.func66, rfl, rfl, by kernel_rfl, by kernel_rfl⟩
@[go_sem] theorem ok66 : calleeOK Tryz.prog 66 = true := by kernel_rfl
@[go_sem] theorem ex66 : (cfg.ext 66).isSome = false := rfl
variable {h : DHeap}
def depthP (p : Str) : Int := match parse p with
  | some l => l.length
  | none => -1
def belowP (p q : Str) : Bool := match parse p, parse q with
  | some a, some b => decide (a.length < b.length) && decide (a = b.take a.length)
  | _, _ => false
theorem names_ok (p : Str) : okL (namesP p) = true := by
  unfold namesP
  cases h : parse p with
  | none => rfl
  | some l => exact (parse_some h).1
theorem names_le (p : Str) : (namesP p).length ≤ 8 := (okL_names (names_ok p)).1
theorem okL_sub {l m : List Str} (h : okL l = true) (hm : m.length ≤ l.length) (hs : ∀ s ∈ m, s ∈ l) : okL m = true := by
  have := okL_names h
  simp only [okL, Bool.and_eq_true, decide_eq_true_eq, List.all_eq_true]
  exact ⟨by omega, fun s hsm => this.2 s (hs s hsm)⟩
theorem join_ok {l : List Str} (h : okL l = true) : l.length ≤ 1048576 ∧ (Lib.join l [47]).length ≤ 1099511627776 := by
  have h1 := okL_names h
  have := join_le l fun s hs => nameOK_le (h1.2 s hs)
  omega
@[go_sem] theorem splitV_eq (p : Str) : splitV p = .tup [vts true (namesP p), vb (parse p).isSome] := by
  unfold splitV namesP
  cases parse p <;> rfl

theorem valid_lim (p : Str) (hp : p.length ≤ 1099511627776) : lim Tryz.prog cfg 93 [vs p] h = some (vb (parse p).isSome, h) := by
  refine lim_funp fun93 rfl (by simp) rfl rfl ?_
  delta cd93
  have hx := split_lim (h := []) p hp
  simp -implicitDefEqProofs -dsimp only [go_sem, hx]
  exact ⟨fun h1 => by rw [h1], fun h1 => by rw [h1]⟩
theorem names_lim (p : Str) (hp : p.length ≤ 1099511627776) : lim Tryz.prog cfg 97 [vs p] h = some (vts true (namesP p), h) := by
  refine lim_funp fun97 rfl (by simp) rfl (by simp [heapFree, free_ts]) ?_
  delta cd97
  have hx := split_lim (h := []) p hp
  simp -implicitDefEqProofs -dsimp only [go_sem, hx]
theorem depth_lim (p : Str) (hp : p.length ≤ 1099511627776) : lim Tryz.prog cfg 65 [vs p] h = some (vi (depthP p), h) := by
  refine lim_funp fun65 rfl (by simp) rfl rfl ?_
  delta cd65
  have hx := split_lim (h := []) p hp
  simp -implicitDefEqProofs -dsimp only [go_sem, hx]
  unfold depthP namesP
  cases parse p <;> simp
theorem parent_lim (p : Str) (hp : p.length ≤ 1099511627776) : lim Tryz.prog cfg 67 [vs p] h = some (vs (parentP p), h) := by
  refine lim_funp fun67 rfl (by simp) rfl rfl ?_
  delta cd67
  have hx := names_lim (h := []) p hp
  have hn := names_le p
  by_cases h0 : namesP p = []
  · simp -implicitDefEqProofs -dsimp only [go_sem, hx, h0]
    simp [parentP, h0]
  · have hpos := List.length_pos_iff.2 h0
    have hw := wrap_pred hpos (by omega)
    have hok := okL_sub (m := (namesP p).take ((namesP p).length - 1)) (names_ok p) (by simp) (fun s hs => List.mem_of_mem_take hs)
    have hj := join_lim (h := []) false _ [47] (join_ok hok).1 (join_ok hok).2
    simp -implicitDefEqProofs -dsimp only [go_sem, hx, hw, List.drop_zero, hj]
    refine ⟨fun h1 => by omega, fun h1 => ⟨by omega, by omega, ?_, ?_⟩⟩
    · have := (join_ok hok).2
      simp; omega
    · simp [parentP, h0, pathOf, List.dropLast_eq_take]
theorem last_lim (p : Str) (hp : p.length ≤ 1099511627776) : lim Tryz.prog cfg 148 [vs p] h = some (vs (lastP p), h) := by
  refine lim_funp fun148 rfl (by simp) rfl rfl ?_
  delta cd148
  have hx := names_lim (h := []) p hp
  have hn := names_le p
  by_cases h0 : namesP p = []
  · simp -implicitDefEqProofs -dsimp only [go_sem, hx, h0]
    simp [lastP, h0]
  · have hpos := List.length_pos_iff.2 h0
    have hw := wrap_pred hpos (by omega)
    simp -implicitDefEqProofs -dsimp only [go_sem, hx, hw]
    refine ⟨fun h1 => by omega, fun h1 => ⟨by omega, ?_⟩⟩
    simp [lastP, List.getLast?_eq_getElem?, List.getElem?_eq_getElem (show (namesP p).length - 1 < (namesP p).length by omega)]
theorem less_lim (p q : Str) (hp : p.length ≤ 1099511627776) (hq : q.length ≤ 1099511627776) : lim Tryz.prog cfg 66 [vs p, vs q] h = some (vb (lessP p q), h) := by
  refine lim_funp fun66 rfl (by simp) rfl rfl ?_
  delta cd66
  have hx := split_lim (h := []) p hp
  have hy := split_lim (h := []) q hq
  have he := compareFunc_lim (h := []) false false (namesP p) (namesP q) 96 [] [] Lib.compareBytes ok96 rfl rfl (fun s u => compare_lim s u) (by have := names_le p; omega)
  cases h1 : parse p with
  | none =>
    have hz : (parse p).isSome = false := by rw [h1]; rfl
    simp -implicitDefEqProofs -dsimp only [go_sem, hx, hy, he, hz]
    simp [lessP, h1]
  | some a =>
    have hz : (parse p).isSome = true := by rw [h1]; rfl
    cases h2 : parse q with
    | none =>
      have hz2 : (parse q).isSome = false := by rw [h2]; rfl
      simp -implicitDefEqProofs -dsimp only [go_sem, hx, hy, he, hz, hz2]
      simp [lessP, h1, h2]
    | some b =>
      have hz2 : (parse q).isSome = true := by rw [h2]; rfl
      simp -implicitDefEqProofs -dsimp only [go_sem, hx, hy, he, hz, hz2]
      have n1 : namesP p = a := by simp [namesP, h1]
      have n2 : namesP q = b := by simp [namesP, h2]
      simp only [lessP, h1, h2, n1, n2]
      exact ⟨fun h3 => by rw [decide_eq_true h3], fun h3 => by rw [decide_eq_false h3]⟩
end Go.DS

/-
  Walks of 'order', and of cmp.Compare, by settings that tell that the count of what was drawn never falls.
-/
namespace Go.DS
open Go Go.Proofs
set_option maxRecDepth 100000
set_option linter.unusedVariables false
set_option linter.unusedSimpArgs false
namespace M
noncomputable abbrev cfg : Cfg := cfgA
@[go_sem] theorem ok119 : calleeOK Tryz.prog 119 = true := by kernel_rfl
@[go_sem] theorem ex119 : (cfg.ext 119).isSome = true := rfl
@[go_sem] theorem ok96 : calleeOK Tryz.prog 96 = true := by kernel_rfl
@[go_sem] theorem ex96 : (cfg.ext 96).isSome = true := rfl
def cd175 : Cd := .seq (R [cb 4 (.tk (.c (kb false)))] [0, 1]) (.seq (R [c0 5 (.mv (.s 0)), c0 6 (.len 0 (.s 5)), c0 7 (.mv (.s 1)), c0 8 (.len 0 (.s 7)), cb 9 (.bin .geq .any (.s 6) (.s 8)), cb 10 (.mv (.s 9)), cg 11 10 true (.mv (.s 0)), cg 12 10 true (.mv (.s 1)), cg 13 10 true (.len 0 (.s 12)), cg 14 10 true (.ss (.s 11) none (some (.s 13))), cg 15 10 true (.mv (.s 1)), ch 16 10 true (.bin .eql .any (.s 14) (.s 15)), cb 17 (.pick (.s 10) (.s 16) (.c (kb false))), cb 4 (.tk (.s 17))] [4]) (.ret))
theorem fun175 : Fun Tryz.prog cfg 175 18 cd175 [.s 4] := ⟨rfl, Tryz.f175, _, Tryz.func175, rfl, rfl, by kernel_rfl, by kernel_rfl⟩
@[go_sem] theorem ok175 : calleeOK Tryz.prog 175 = true := by kernel_rfl
@[go_sem] theorem ex175 : (cfg.ext 175).isSome = false := rfl
def cd150 : Cd := .seq (R [c0 4 (.tk (.c (ks []))), cb 5 (.tk (.c (kb false)))] [0, 1]) (.seq (.seq (R [c0 6 (.mv (.s 0)), c0 7 (.mv (.s 1)), cb 8 (.call none (.c (kf 175)) [(.s 6), (.s 7)]), cb 9 (.un .not (.s 8))] [0, 1, 9]) (.ite (.s 9) (.seq (R [c0 10 (.tk (.s 0)), c0 4 (.tk (.s 10)), cb 5 (.tk (.c (kb false)))] [4, 5]) (.ret)) (.skip))) (.seq (R [c0 11 (.mv (.s 0)), c0 12 (.mv (.s 1)), c0 13 (.len 0 (.s 12)), c0 14 (.ss (.s 11) (some (.s 13)) none), c0 4 (.tk (.s 14)), cb 5 (.tk (.c (kb true)))] [4, 5]) (.ret)))
theorem fun150 : Fun Tryz.prog cfg 150 15 cd150 [.s 4, .s 5] := ⟨rfl, Tryz.f150, _, Tryz.func150, rfl, rfl, by kernel_rfl, by kernel_rfl⟩
@[go_sem] theorem ok150 : calleeOK Tryz.prog 150 = true := by kernel_rfl
@[go_sem] theorem ex150 : (cfg.ext 150).isSome = false := rfl
def cd118 : Cd := .seq (R [c0 4 (.tk (.c (ks []))), cb 5 (.tk (.c (kb false)))] [0, 1]) (.seq (R [c0 6 (.mv (.s 0)), c0 7 (.mv (.s 1)), c0 8 (.call none (.c (kf 150)) [(.s 6), (.s 7)]), c0 9 (.exh (.s 8)), cb 10 (.ext (.s 8) 1), c0 4 (.tk (.s 9)), cb 5 (.tk (.s 10))] [4, 5]) (.ret))
theorem fun118 : Fun Tryz.prog cfg 118 11 cd118 [.s 4, .s 5] := ⟨rfl, Tryz.f118, _, Tryz.func118, rfl, rfl, by kernel_rfl, by kernel_rfl⟩
@[go_sem] theorem ok118 : calleeOK Tryz.prog 118 = true := by kernel_rfl
@[go_sem] theorem ex118 : (cfg.ext 118).isSome = false := rfl
def cd120 : Cd := .seq (R [cb 2 (.tk (.c (kb false)))] [0]) (.seq (.seq (R [c0 5 (.mv (.s 0)), c0 6 (.len 0 (.s 5)), c0 7 (.mv (.c (ki .i64 0)))] [0, 6, 7]) (.block 0 (LP [0, 6, 7] (.seq (R [cb 8 (.bin .lss .any (.s 7) (.s 6))] [0, 6, 7, 8]) (.seq (.ite (.s 8) (.skip) (.exit 0)) (.seq (.block 1 (.seq (R [c0 9 (.tk (.s 7)), c0 3 (.tk (.s 9))] [0, 3, 6, 7]) (.seq (R [c0 10 (.mv (.s 0)), c0 11 (.mv (.s 3)), c0 12 (.ixs (.s 10) (.s 11)), c0 4 (.tk (.s 12))] [0, 4, 6, 7]) (.block 2 (.seq (.seq (R [c0 14 (.mv (.s 4)), cb 15 (.bin .leq .any (.c (ki .u8 97)) (.s 14)), cb 16 (.mv (.s 15)), cg 17 16 true (.mv (.s 4)), ch 18 16 true (.bin .leq .any (.s 17) (.c (ki .u8 122))), cb 19 (.pick (.s 16) (.s 18) (.c (kb false))), cb 13 (.tk (.s 19))] [0, 4, 6, 7, 13]) (.ite (.s 13) (.skip) (.seq (R [c0 20 (.mv (.s 4)), cb 21 (.bin .leq .any (.c (ki .u8 48)) (.s 20)), cb 22 (.mv (.s 21)), cg 23 22 true (.mv (.s 4)), ch 24 22 true (.bin .leq .any (.s 23) (.c (ki .u8 57))), cb 25 (.pick (.s 22) (.s 24) (.c (kb false))), cb 13 (.tk (.s 25))] [0, 4, 6, 7, 13]) (.ite (.s 13) (.skip) (.seq (R [c0 26 (.mv (.s 4)), cb 27 (.bin .eql .any (.s 26) (.c (ki .u8 45))), cb 13 (.tk (.s 27))] [0, 4, 6, 7, 13]) (.ite (.s 13) (.skip) (R [c0 28 (.mv (.s 4)), cb 29 (.bin .eql .any (.s 28) (.c (ki .u8 95))), cb 13 (.tk (.s 29))] [0, 6, 7, 13]))))))) (.ite (.s 13) (.skip) (.seq (R [cb 2 (.tk (.c (kb false)))] [2]) (.ret)))))))) (R [c0 30 (.bin .add .any (.s 7) (.c (ki .i64 1))), c0 7 (.mv (.s 30))] [0, 6, 7]))))))) (.seq (R [c0 31 (.mv (.s 0)), c0 32 (.len 0 (.s 31)), cb 33 (.bin .lss .any (.c (ki .i64 0)) (.s 32)), cb 34 (.mv (.s 33)), cg 35 34 true (.mv (.s 0)), cg 36 34 true (.len 0 (.s 35)), ch 37 34 true (.bin .leq .any (.s 36) (.c (ki .i64 16))), cb 38 (.pick (.s 34) (.s 37) (.c (kb false))), cb 2 (.tk (.s 38))] [2]) (.ret)))
theorem fun120 : Fun Tryz.prog cfg 120 39 cd120 [.s 2] := ⟨rfl, Tryz.f120, _, Tryz.func120, rfl, rfl, by kernel_rfl, by kernel_rfl⟩
@[go_sem] theorem ok120 : calleeOK Tryz.prog 120 = true := by kernel_rfl
@[go_sem] theorem ex120 : (cfg.ext 120).isSome = false := rfl
def cd94 : Cd := .seq (R [c0 2 (.tk (.c (kn 1))), cb 3 (.tk (.c (kb false)))] [0]) (.scope (.seq (.seq (R [c0 8 (.mv (.s 0)), cb 9 (.bin .eql .any (.s 8) (.c (ks [47])))] [0, 9]) (.ite (.s 9) (.seq (R [c0 2 (.tk (.c (kn 1))), cb 3 (.tk (.c (kb true)))] [2, 3]) (.ret)) (.skip))) (.seq (R [c0 4 (.tk (.c (kn 1)))] [0, 4]) (.seq (.skip) (.seq (.block 0 (LP [0, 4] (.seq (.seq (R [c0 10 (.mv (.s 0)), cb 11 (.bin .neq .any (.s 10) (.c (ks [])))] [0, 4, 11]) (.ite (.s 11) (.skip) (.exit 0))) (.block 1 (.seq (R [c0 13 (.mv (.s 0)), c0 14 (.call none (.c (kf 118)) [(.s 13), (.c (ks [47]))]), c0 12 (.tk (.s 14)), c0 15 (.exh (.s 12)), cb 16 (.ext (.s 12) 1), c0 5 (.tk (.s 15)), cb 6 (.tk (.s 16))] [4, 5, 6]) (.seq (.seq (R [cb 17 (.mv (.s 6)), cb 18 (.un .not (.s 17))] [4, 5, 18]) (.ite (.s 18) (.seq (R [c0 2 (.tk (.c (kn 1))), cb 3 (.tk (.c (kb false)))] [2, 3]) (.ret)) (.skip))) (.seq (R [c0 19 (.mv (.s 5)), c0 20 (.call none (.c (kf 119)) [(.s 19), (.c (ki .u8 47))]), c0 7 (.tk (.s 20))] [4, 5, 7]) (.seq (.seq (R [c0 21 (.mv (.s 7)), cb 22 (.bin .lss .any (.s 21) (.c (ki .i64 0)))] [4, 5, 7, 22]) (.ite (.s 22) (R [c0 23 (.mv (.s 5)), c0 24 (.len 0 (.s 23)), c0 7 (.tk (.s 24))] [4, 5, 7]) (.skip))) (.seq (R [c0 25 (.tk (.s 4)), c0 26 (.mv (.s 5)), c0 27 (.mv (.s 7)), c0 28 (.ss (.s 26) none (some (.s 27))), c0 29 (.bsl 1 [(.s 28)]), c0 30 (.app 1 18 true (.s 25) (.s 29)), c0 4 (.tk (.s 30))] [4, 5, 7]) (.seq (R [c0 31 (.mv (.s 5)), c0 32 (.mv (.s 7)), c0 33 (.ss (.s 31) (some (.s 32)) none), c0 0 (.tk (.s 33))] [0, 4]) (.seq (R [c0 34 (.mv (.s 4)), c0 35 (.len 1 (.s 34)), cb 36 (.bin .gtr .any (.s 35) (.c (ki .i64 8))), cb 37 (.mv (.s 36)), cg 38 37 false (.mv (.s 4)), cg 39 37 false (.mv (.s 4)), cg 40 37 false (.len 1 (.s 39)), cg 41 37 false (.bin .sub .any (.s 40) (.c (ki .i64 1))), cg 42 37 false (.ixp 1 (.s 38) (.s 41)), cg 43 37 false (.ld false 1 (.s 42)), ch 44 37 false (.call none (.c (kf 120)) [(.s 43)]), ch 45 37 false (.un .not (.s 44)), cb 46 (.pick (.s 37) (.c (kb true)) (.s 45))] [0, 4, 46]) (.ite (.s 46) (.seq (R [c0 4 (.tk (.c (kn 1)))] [4]) (.exit 0)) (.skip))))))))))))) (.seq (R [c0 47 (.tk (.s 4)), c0 48 (.mv (.s 4)), c0 49 (.len 1 (.s 48)), cb 50 (.bin .gtr .any (.s 49) (.c (ki .i64 0))), c0 2 (.tk (.s 47)), cb 3 (.tk (.s 50))] [2, 3]) (.ret)))))))
theorem fun94 : Fun Tryz.prog cfg 94 51 cd94 [.s 2, .s 3] := ⟨rfl, Tryz.f94, _, Tryz.func94, rfl, rfl, by kernel_rfl, by kernel_rfl⟩
@[go_sem] theorem ok94 : calleeOK Tryz.prog 94 = true := by kernel_rfl
@[go_sem] theorem ex94 : (cfg.ext 94).isSome = false := rfl
def cd95 : Cd := .seq (R [c0 6 (.tk (.c (ki .i64 0)))] [0, 1, 2]) (.seq (.seq (R [c0 11 (.mv (.s 0)), c0 12 (.len 1 (.s 11)), c0 13 (.mv (.c (ki .i64 0)))] [0, 1, 2, 11, 12, 13]) (.block 0 (LP [0, 1, 2, 11, 12, 13] (.seq (R [c0 14 (.bin .lss .any (.s 13) (.s 12))] [0, 1, 2, 11, 12, 13, 14]) (.seq (.ite (.s 14) (.skip) (.exit 0)) (.seq (.block 1 (.seq (R [c0 15 (.tk (.s 13)), c0 16 (.ixp 1 (.s 11) (.s 13)), c0 17 (.ldx true false 1 (.s 16)), c0 7 (.tk (.s 15)), c0 8 (.tk (.s 17))] [0, 1, 2, 7, 8, 11, 12, 13]) (.seq (.seq (R [c0 18 (.mv (.s 7)), c0 19 (.mv (.s 1)), c0 20 (.len 1 (.s 19)), cb 21 (.bin .geq .any (.s 18) (.s 20))] [0, 1, 2, 7, 8, 11, 12, 13, 21]) (.ite (.s 21) (.seq (R [c0 6 (.tk (.c (ki .i64 1)))] [6]) (.ret)) (.skip))) (.seq (R [c0 22 (.mv (.s 1)), c0 23 (.mv (.s 7)), c0 24 (.ixp 1 (.s 22) (.s 23)), c0 25 (.ldx true false 1 (.s 24)), c0 9 (.tk (.s 25))] [0, 1, 2, 8, 9, 11, 12, 13]) (.seq (R [c0 26 (.mv (.s 2)), c0 27 (.mv (.s 8)), c0 28 (.mv (.s 9)), c0 29 (.call none (.s 26) [(.s 27), (.s 28)]), c0 10 (.tk (.s 29))] [0, 1, 2, 10, 11, 12, 13]) (.seq (R [c0 30 (.mv (.s 10)), cb 31 (.bin .neq .any (.s 30) (.c (ki .i64 0)))] [0, 1, 2, 10, 11, 12, 13, 31]) (.ite (.s 31) (.seq (R [c0 32 (.tk (.s 10)), c0 6 (.tk (.s 32))] [6]) (.ret)) (.skip)))))))) (R [c0 33 (.bin .add .any (.s 13) (.c (ki .i64 1))), c0 13 (.mv (.s 33))] [0, 1, 2, 11, 12, 13]))))))) (.seq (.seq (R [c0 34 (.mv (.s 0)), c0 35 (.len 1 (.s 34)), c0 36 (.mv (.s 1)), c0 37 (.len 1 (.s 36)), cb 38 (.bin .lss .any (.s 35) (.s 37))] [38]) (.ite (.s 38) (.seq (R [c0 6 (.tk (.c (ki .i64 (-1))))] [6]) (.ret)) (.skip))) (.seq (R [c0 6 (.tk (.c (ki .i64 0)))] [6]) (.ret))))
theorem fun95 : Fun Tryz.prog cfg 95 39 cd95 [.s 6] := ⟨rfl, Tryz.f95, _, Tryz.func95, rfl, rfl, by kernel_rfl, by kernel_rfl⟩
@[go_sem] theorem ok95 : calleeOK Tryz.prog 95 = true := by kernel_rfl
@[go_sem] theorem ex95 : (cfg.ext 95).isSome = false := rfl
def cd66 : Cd := .seq (R [cb 4 (.tk (.c (kb false)))] [0, 1]) (.seq (R [c0 10 (.mv (.s 0)), c0 11 (.call none (.c (kf 94)) [(.s 10)]), c0 9 (.tk (.s 11)), c0 12 (.exh (.s 9)), cb 13 (.ext (.s 9) 1), c0 5 (.tk (.s 12)), cb 6 (.tk (.s 13))] [1, 5, 6]) (.seq (R [c0 15 (.mv (.s 1)), c0 16 (.call none (.c (kf 94)) [(.s 15)]), c0 14 (.tk (.s 16)), c0 17 (.exh (.s 14)), cb 18 (.ext (.s 14) 1), c0 7 (.tk (.s 17)), cb 8 (.tk (.s 18))] [5, 6, 7, 8]) (.seq (R [cb 19 (.mv (.s 6)), cb 20 (.mv (.s 19)), ch 21 20 true (.mv (.s 8)), cb 22 (.pick (.s 20) (.s 21) (.c (kb false))), cb 23 (.mv (.s 22)), cg 24 23 true (.mv (.s 5)), cg 25 23 true (.mv (.s 7)), cg 26 23 true (.call none (.c (kf 95)) [(.s 24), (.s 25), (.c (kf 96))]), ch 27 23 true (.bin .lss .any (.s 26) (.c (ki .i64 0))), cb 28 (.pick (.s 23) (.s 27) (.c (kb false))), cb 4 (.tk (.s 28))] [4]) (.ret))))
theorem fun66 : Fun Tryz.prog cfg 66 29 cd66 [.s 4] := ⟨rfl, Tryz.f66, _, Tryz.func66, rfl, rfl, by kernel_rfl, by kernel_rfl⟩
@[go_sem] theorem ok66 : calleeOK Tryz.prog 66 = true := by kernel_rfl
@[go_sem] theorem ex66 : (cfg.ext 66).isSome = false := rfl
def cd70 : Cd := .seq (R [c0 4 (.tk (.c (ki .i64 0)))] [0, 1]) (.seq (.block 0 (.seq (R [c0 6 (.mv (.s 0)), c0 7 (.mv (.s 1)), cb 8 (.call none (.c (kf 66)) [(.s 6), (.s 7)]), cb 5 (.tk (.s 8))] [0, 1, 5]) (.ite (.s 5) (.seq (R [c0 4 (.tk (.c (ki .i64 (-1))))] [4]) (.ret)) (.seq (R [c0 10 (.mv (.s 0)), c0 11 (.mv (.s 1)), cb 12 (.bin .eql .any (.s 10) (.s 11)), cb 9 (.tk (.s 12))] [9]) (.ite (.s 9) (.seq (R [c0 4 (.tk (.c (ki .i64 0)))] [4]) (.ret)) (.skip)))))) (.seq (R [c0 4 (.tk (.c (ki .i64 1)))] [4]) (.ret)))
theorem fun70 : Fun Tryz.prog cfg 70 13 cd70 [.s 4] := ⟨rfl, Tryz.f70, _, Tryz.func70, rfl, rfl, by kernel_rfl, by kernel_rfl⟩
@[go_sem] theorem ok70 : calleeOK Tryz.prog 70 = true := by kernel_rfl
@[go_sem] theorem ex70 : (cfg.ext 70).isSome = false := rfl
def cd174 : Cd := .seq (R [cb 2 (.tk (.c (kb false)))] [0]) (.seq (R [c0 3 (.mv (.s 0)), c0 4 (.mv (.s 0)), cb 5 (.bin .neq .any (.s 3) (.s 4)), cb 2 (.tk (.s 5))] [2]) (.ret))
theorem fun174 : Fun Tryz.prog cfg 174 6 cd174 [.s 2] := ⟨rfl, Tryz.f174, _, Tryz.func174, rfl, rfl, by kernel_rfl, by kernel_rfl⟩
@[go_sem] theorem ok174 : calleeOK Tryz.prog 174 = true := by kernel_rfl
@[go_sem] theorem ex174 : (cfg.ext 174).isSome = false := rfl
def cd149 : Cd := .seq (R [c0 4 (.tk (.c (ki .i64 0)))] [0, 1]) (.seq (R [c0 7 (.mv (.s 0)), cb 8 (.call none (.c (kf 174)) [(.s 7)]), cb 5 (.tk (.s 8))] [0, 1, 5]) (.seq (R [c0 9 (.mv (.s 1)), cb 10 (.call none (.c (kf 174)) [(.s 9)]), cb 6 (.tk (.s 10))] [0, 1, 5, 6]) (.seq (.seq (R [cb 11 (.mv (.s 5))] [0, 1, 6, 11]) (.ite (.s 11) (.seq (.seq (R [cb 12 (.mv (.s 6))] [12]) (.ite (.s 12) (.seq (R [c0 4 (.tk (.c (ki .i64 0)))] [4]) (.ret)) (.skip))) (.seq (R [c0 4 (.tk (.c (ki .i64 (-1))))] [4]) (.ret))) (.skip))) (.seq (.seq (R [cb 13 (.mv (.s 6))] [0, 1, 13]) (.ite (.s 13) (.seq (R [c0 4 (.tk (.c (ki .i64 1)))] [4]) (.ret)) (.skip))) (.seq (.seq (R [c0 14 (.mv (.s 0)), c0 15 (.mv (.s 1)), cb 16 (.bin .lss .any (.s 14) (.s 15))] [0, 1, 16]) (.ite (.s 16) (.seq (R [c0 4 (.tk (.c (ki .i64 (-1))))] [4]) (.ret)) (.skip))) (.seq (.seq (R [c0 17 (.mv (.s 0)), c0 18 (.mv (.s 1)), cb 19 (.bin .gtr .any (.s 17) (.s 18))] [19]) (.ite (.s 19) (.seq (R [c0 4 (.tk (.c (ki .i64 1)))] [4]) (.ret)) (.skip))) (.seq (R [c0 4 (.tk (.c (ki .i64 0)))] [4]) (.ret))))))))
theorem fun149 : Fun Tryz.prog cfg 149 20 cd149 [.s 4] := ⟨rfl, Tryz.f149, _, Tryz.func149, rfl, rfl, by kernel_rfl, by kernel_rfl⟩
@[go_sem] theorem ok149 : calleeOK Tryz.prog 149 = true := by kernel_rfl
@[go_sem] theorem ex149 : (cfg.ext 149).isSome = false := rfl
variable {h : DHeap}
@[go_sem] theorem index_lim (s : Str) : lim Tryz.prog cfg 119 [.sc (.string (mkB s)), .sc (.int .u8 47)] h = some (.sc (.int .i64 (if aft s = [] then -1 else ((seg s).length : Int))), h) := by
  refine lim_ext rfl ?_ rfl
  show some (DV.sc (.int .i64 (Lib.indexByte s 47)), h) = _
  rw [index_lt]
@[go_sem] theorem hasPrefix_lim (s u : Str) : lim Tryz.prog cfg 175 [.sc (.string (mkB s)), .sc (.string (mkB u))] h = some (.sc (.bool (u.isPrefixOf s)), h) := by
  refine lim_funp fun175 rfl (by simp) rfl rfl ?_
  delta cd175
  simp -implicitDefEqProofs -dsimp only [go_sem]
  rw [isPrefixOf_take]
  refine ⟨fun h1 => ⟨by omega, by omega, fun h2 => by simp [h2], fun h2 => by simp [h2]⟩, fun h1 => ?_⟩
  have : ¬ (s.take u.length = u) := fun e => by have := congrArg List.length e; simp at this; omega
  simp [this]
@[go_sem] theorem cutPrefix0_lim (s u : Str) : lim Tryz.prog cfg 150 [.sc (.string (mkB s)), .sc (.string (mkB u))] h = some (.tup [.sc (.string (mkB (if u.isPrefixOf s = true then s.drop u.length else s))), .sc (.bool (u.isPrefixOf s))], h) := by
  refine lim_funp fun150 rfl (by simp) rfl rfl ?_
  delta cd150
  simp -implicitDefEqProofs -dsimp only [go_sem]
  refine ⟨fun h1 => ⟨by omega, ?_, by simp [h1]⟩, fun h1 => by simp [h1]⟩
  rw [isPrefixOf_take] at h1
  have := congrArg List.length (of_decide_eq_true h1)
  simp at this; omega
@[go_sem] theorem cutPrefix_lim (s u : Str) : lim Tryz.prog cfg 118 [.sc (.string (mkB s)), .sc (.string (mkB u))] h = some (.tup [.sc (.string (mkB (if u.isPrefixOf s = true then s.drop u.length else s))), .sc (.bool (u.isPrefixOf s))], h) := by
  refine lim_funp fun118 rfl (by simp) rfl rfl ?_
  delta cd118
  simp -implicitDefEqProofs -dsimp only [go_sem]
  refine ⟨fun h1 => by simp [h1], fun h1 => by simp [h1]⟩
theorem name_lim (s : Str) (hs : s.length ≤ 1099511627776) : lim Tryz.prog cfg 120 [.sc (.string (mkB s))] h = some (.sc (.bool (nameOK s)), h) := by
  refine lim_funp fun120 rfl (by simp) rfl rfl ?_
  delta cd120
  simp -implicitDefEqProofs -dsimp only [go_sem]
  refine wp_for (σ := Nat) (fun k => [(0, .sc (.string (mkB s))), (6, .sc (.int .i64 (s.length : Nat))), (7, .sc (.int .i64 (k : Nat)))]) (fun _ => []) (fun k => s.length - k) (fun k => k ≤ s.length ∧ (s.take k).all okc = true) 0 (by simp) rfl rfl ?_
  rintro k ⟨hk, hj⟩ N hN
  simp -implicitDefEqProofs -dsimp only [go_sem]
  refine ⟨fun h1 => ?_, fun h1 => ?_⟩
  · repeat' first | intro _ | refine And.intro ?_ ?_ | refine Exists.intro (by omega) ?_
    all_goals first
      | exact hN (k + 1) _ (by omega) ⟨by omega, take_all (by omega) hj ((okc_iff _).2 (by omega))⟩ (by simp -implicitDefEqProofs -dsimp only [go_sem, wrap_succ (show k < 9223372036854775807 by omega)])
      | (have := not_all (p := okc) (l := s) (k := k) (by omega) ((okc_not _).2 (by omega))
         simp [nameOK, this])
  · have : k = s.length := by omega
    subst this
    rw [List.take_length] at hj
    simp [nameOK, hj]
    grind
section
attribute [-go_sem] splitV_eq
theorem split_lim (p : Str) (hs : p.length ≤ 1099511627776) : lim Tryz.prog cfg 94 [.sc (.string (mkB p))] h = some (splitV p, h) := by
  refine lim_funp fun94 rfl (by simp) rfl ?_ ?_
  · unfold splitV
    cases parse p <;> simp [heapFree, heapFree.all, free_ts]
  delta cd94
  simp -implicitDefEqProofs -dsimp only [go_sem]
  refine ⟨fun h1 => ?_, fun h1 => ?_⟩
  · simp [splitV, parse, h1, ts]
  refine wp_for (σ := Str × List Str) (fun x => [(0, .sc (.string (mkB x.1))), (4, .list true 1 (ts x.2))]) (fun _ => []) (fun x => x.1.length) (fun x => runP x.1 x.2 = parse p ∧ x.1.length ≤ p.length ∧ x.2.length ≤ 8) (p, []) (by simp [parse, h1]) rfl rfl ?_
  rintro ⟨q, l⟩ ⟨hr, hq, hl⟩ N hN
  dsimp only at hr hq hl
  match q, hr, hq, hN with
  | [], hr, hq, hN =>
    simp -implicitDefEqProofs -dsimp only [go_sem]
    rw [runP_nil] at hr
    by_cases hl0 : l = []
    · subst hl0; simp [splitV, ← hr, ts]
    · have := List.length_pos_iff.2 hl0
      simp only [if_neg hl0] at hr
      simp only [splitV, ← hr, true_and]
      exact ⟨fun _ => trivial, fun h => by omega⟩
  | c :: r, hr, hq, hN =>
    rw [runP_cons] at hr
    have hq' : r.length + 1 ≤ p.length := hq
    have hse := seg_aft r
    have hse' : (seg r).length + (aft r).length = r.length := by rw [← List.length_append, hse]
    have hn := name_lim (h := []) (seg r) (by omega)
    by_cases hc : c = 47
    · subst hc
      simp only [ne_eq, not_true_eq_false, if_false] at hr
      have hw : ∀ x : Str, IntKind.wrap .i64 (((l ++ [x]).length : Int) - 1) = (l.length : Int) := fun x => by simp; rw [wrap64 (by omega) (by omega)]
      have hpre : List.isPrefixOf [47] (47 :: r) = true := rfl
      have hf : (DV.tup [DV.list true 1 [], DV.sc (Value.bool false)] = splitV p) ↔ parse p = none := by
        unfold splitV
        cases parse p <;> simp [ts]
      have hneg : ((-1 : Int) < 0) = True := by simp
      by_cases ha : aft r = []
      · have hs1 : seg r = r := by rw [ha, List.append_nil] at hse; exact hse
        rw [hs1] at hn hr
        simp -implicitDefEqProofs -dsimp only [go_sem, hpre, ha, hneg, List.take_length, hw, idxP_last, hn, hf]
        simp only [List.length_append, List.length_cons, List.length_nil] at *
        refine ⟨by omega, by omega, by unfold maxLenD; omega, by omega, by omega, fun h8 => ?_, fun h8 => ⟨fun hk => ?_, fun hk => ?_⟩⟩
        · rw [← hr, if_pos (.inl (by omega))]
        · refine hN (aft r, l ++ [r]) _ ?_ ⟨?_, ?_, ?_⟩ ?_
          · simp only; simp [ha]
          · rw [← hr, if_neg (by simp [hk]; omega)]
          · simp only; omega
          · simp; omega
          · simp -implicitDefEqProofs -dsimp only [go_sem]
            simp [ha]
        · rw [← hr, if_pos (.inr hk)]
      · have hs1 : r.take (seg r).length = seg r := by
          have := List.take_left (l₁ := seg r) (l₂ := aft r); rwa [hse] at this
        have hs2 : r.drop (seg r).length = aft r := by
          have := List.drop_left (l₁ := seg r) (l₂ := aft r); rwa [hse] at this
        have hz : (((seg r).length : Int) < 0) = False := by simp
        simp -implicitDefEqProofs -dsimp only [go_sem, hpre, ha, hz, List.take_length, hs1, hs2, hw, idxP_last, hn, hf]
        simp only [List.length_append, List.length_cons, List.length_nil] at *
        refine ⟨by omega, by omega, by unfold maxLenD; omega, by omega, by omega, fun h8 => ?_, fun h8 => ⟨fun hk => ?_, fun hk => ?_⟩⟩
        · rw [← hr, if_pos (.inl (by omega))]
        · refine hN (aft r, l ++ [seg r]) _ ?_ ⟨?_, ?_, ?_⟩ ?_
          · simp only; omega
          · rw [← hr, if_neg (by simp [hk]; omega)]
          · simp only; omega
          · simp; omega
          · simp -implicitDefEqProofs -dsimp only [go_sem]
        · rw [← hr, if_pos (.inr hk)]
    · have hpre : List.isPrefixOf [47] (c :: r) = false := by simp [List.isPrefixOf, Ne.symm hc]
      simp only [ne_eq, hc, not_false_eq_true, if_true] at hr
      simp -implicitDefEqProofs -dsimp only [go_sem, hpre]
      simp [splitV, ← hr, ts]
end
@[go_sem] theorem compare_lim (s u : Str) : lim Tryz.prog cfg 96 [vs s, vs u] h = some (vi (Lib.compareBytes s u), h) := lim_ext rfl rfl rfl
theorem compareFunc_lim (o1 o2 : Bool) (l m : List Str) (k : FuncId) (fs cs : List DV) (F : Str → Str → Int) (hok : calleeOK Tryz.prog k = true) (hfs : heapFree.all fs = true) (hcs : heapFree.all cs = true)
    (hF : ∀ s u, lim Tryz.prog cfg k (fs ++ [vs s, vs u] ++ cs) [] = some (vi (F s u), [])) (hl : l.length ≤ 1099511627776) :
    lim Tryz.prog cfg 95 [vts o1 l, vts o2 m, .fn (.func k) fs cs] h = some (vi (cmpF F l m), h) := by
  refine lim_funp fun95 rfl (by simp) (by simp [heapFree, free_ts, hfs, hcs]) rfl ?_
  delta cd95
  simp -implicitDefEqProofs -dsimp only [go_sem]
  refine wp_for (σ := Nat) (fun i => [(0, vts false l), (1, vts false m), (2, .fn (.func k) fs cs), (11, vts false l), (12, vi (l.length : Nat)), (13, vi (i : Nat))]) (fun _ => []) (fun i => l.length - i) (fun i => i ≤ l.length ∧ i ≤ m.length ∧ cmpF F l m = cmpF F (l.drop i) (m.drop i)) 0 (by simp) rfl rfl ?_
  rintro i ⟨hi, hm, hj⟩ N hN
  simp -implicitDefEqProofs -dsimp only [go_sem, hok, hF]
  have dl : ∀ hh : i < l.length, l.drop i = l[i] :: l.drop (i + 1) := fun hh => List.drop_eq_getElem_cons hh
  have dn : ∀ hh : m.length ≤ i, m.drop i = [] := fun hh => List.drop_eq_nil_of_le hh
  have dm : ∀ hh : i < m.length, m.drop i = m[i] :: m.drop (i + 1) := fun hh => List.drop_eq_getElem_cons hh
  refine ⟨fun h2 => ⟨by omega, fun h3 => ?_, fun h3 => ⟨by omega, fun h4 => ?_, fun h4 => ?_⟩⟩, fun h2 => ⟨fun h3 => ?_, fun h3 => ?_⟩⟩
  · rw [hj, dl (by omega), dn (by omega)]; rfl
  · refine hN (i + 1) _ (by omega) ⟨by omega, by omega, ?_⟩ (by simp -implicitDefEqProofs -dsimp only [go_sem, wrap_succ (show i < 9223372036854775807 by omega)])
    rw [hj, dl (by omega), dm (by omega), cmpF, if_neg (by simpa using h4)]
  · rw [hj, dl (by omega), dm (by omega), cmpF, if_pos (by simpa using h4)]
  · have : i = l.length := by omega
    subst this
    rw [hj, List.drop_length, dm (by omega)]; rfl
  · have : i = l.length := by omega
    subst this
    rw [hj, List.drop_length, dn (by omega)]; rfl
theorem less_lim (p q : Str) (hp : p.length ≤ 1099511627776) (hq : q.length ≤ 1099511627776) : lim Tryz.prog cfg 66 [vs p, vs q] h = some (vb (lessP p q), h) := by
  refine lim_funp fun66 rfl (by simp) rfl rfl ?_
  delta cd66
  have hx := split_lim (h := []) p hp
  have hy := split_lim (h := []) q hq
  have he := compareFunc_lim (h := []) false false (namesP p) (namesP q) 96 [] [] Lib.compareBytes ok96 rfl rfl (fun s u => compare_lim s u) (by have := names_le p; omega)
  cases h1 : parse p with
  | none =>
    have hz : (parse p).isSome = false := by rw [h1]; rfl
    simp -implicitDefEqProofs -dsimp only [go_sem, hx, hy, he, hz]
    simp [lessP, h1]
  | some a =>
    have hz : (parse p).isSome = true := by rw [h1]; rfl
    cases h2 : parse q with
    | none =>
      have hz2 : (parse q).isSome = false := by rw [h2]; rfl
      simp -implicitDefEqProofs -dsimp only [go_sem, hx, hy, he, hz, hz2]
      simp [lessP, h1, h2]
    | some b =>
      have hz2 : (parse q).isSome = true := by rw [h2]; rfl
      simp -implicitDefEqProofs -dsimp only [go_sem, hx, hy, he, hz, hz2]
      have n1 : namesP p = a := by simp [namesP, h1]
      have n2 : namesP q = b := by simp [namesP, h2]
      simp only [lessP, h1, h2, n1, n2]
      exact ⟨fun h3 => by rw [decide_eq_true h3], fun h3 => by rw [decide_eq_false h3]⟩

theorem order_lim (p q : Str) (hp : p.length ≤ 1099511627776) (hq : q.length ≤ 1099511627776) : lim Tryz.prog cfg 70 [vs p, vs q] h = some (vi (ordP p q), h) := by
  refine lim_funp fun70 rfl (by simp) rfl rfl ?_
  delta cd70
  have hx := less_lim (h := []) p q hp hq
  cases h1 : lessP p q with
  | true =>
    simp -implicitDefEqProofs -dsimp only [go_sem, hx, h1]
    simp [ordP, h1]
  | false =>
    by_cases h2 : p = q
    · subst h2
      simp -implicitDefEqProofs -dsimp only [go_sem, hx, h1]
      simp [ordP, h1]
    · simp -implicitDefEqProofs -dsimp only [go_sem, hx, h1, h2]
      simp [ordP, h1, h2]
@[go_sem] theorem isNaN_lim (p : Str) : lim Tryz.prog cfg 174 [vs p] h = some (vb false, h) := by
  refine lim_funp fun174 rfl (by simp) rfl rfl ?_
  delta cd174
  simp -implicitDefEqProofs -dsimp only [go_sem]
theorem cmpS_lim (p q : Str) : lim Tryz.prog cfg 149 [vs p, vs q] h = some (vi (Lib.compareBytes p q), h) := by
  refine lim_funp fun149 rfl (by simp) rfl rfl ?_
  delta cd149
  simp -implicitDefEqProofs -dsimp only [go_sem]
  have h0 := cmpB_zero p q
  have h1 := cmpB_neg p q
  have h2 : Lib.compareBytes p q = -1 ∨ Lib.compareBytes p q = 0 ∨ Lib.compareBytes p q = 1 := cmpB_vals p q
  rw [← h1]
  rcases h2 with e | e | e <;> rw [e] at h0 ⊢ <;> simp at h0 ⊢ <;> simp [h0]
end M
end Go.DS

/-
  Contracts of library functions, laid by the kit's contract.sh for this program (its text), in one file.
-/
namespace Go.Proofs
set_option maxHeartbeats 1000000 in
set_option maxRecDepth 100000 in
/-- internal/stringslite.IndexByte (what strings.IndexByte calls): IT RETURNS 'Lib.indexByte s c'; the world is as it was. -/
theorem Tryz.stringslite_IndexByte (s : ByteArray) (c : Int) (w : World) :
    Calls Tryz.prog 151 #[.string s, .int .u8 c] w fun e w' => e = .returned (.int .i64 (Lib.indexByte s.data.toList c.toNat.toUInt8)) ∧ w' = w := by
  go_enter Tryz.func151, Tryz.ntmps151
  go_wp2
  rw [run_callFunc_extern Tryz.func176 (by kernel_rfl) (by kernel_rfl) (by kernel_rfl) (e := Extern.BytealgIndexByte.indexByte) (by kernel_rfl), Lib.run_indexByteString]
  simp only [Result.andThen]
  rw [Oper.upon_value]
  go_wp2
  go_ret
  exact ⟨rfl, rfl⟩

set_option maxHeartbeats 1000000 in
/-- strings.IndexByte: "IndexByte returns the index of the first instance of c in s, or -1 if c is not present in s.": IT RETURNS 'Lib.indexByte s c'; the world is as it was. -/
theorem Tryz.strings_IndexByte (s : ByteArray) (c : Int) (w : World) :
    Calls Tryz.prog 119 #[.string s, .int .u8 c] w fun e w' => e = .returned (.int .i64 (Lib.indexByte s.data.toList c.toNat.toUInt8)) ∧ w' = w := by
  go_enter Tryz.func119, Tryz.ntmps119
  go_wp2_with (go_at_call 151; refine (Tryz.stringslite_IndexByte _ _ _).mono ?_; rintro e w' ⟨rfl, rfl⟩)
  go_ret
  exact ⟨rfl, rfl⟩

set_option maxHeartbeats 1000000 in
set_option maxRecDepth 100000 in
/-- internal/bytealg.CompareString (what strings.Compare calls): IT RETURNS 'Lib.compareBytes a b'; the world is as it was. -/
theorem Tryz.bytealg_CompareString (a b : ByteArray) (w : World) :
    Calls Tryz.prog 121 #[.string a, .string b] w fun e w' => e = .returned (.int .i64 (Lib.compareBytes a.data.toList b.data.toList)) ∧ w' = w := by
  go_enter Tryz.func121, Tryz.ntmps121
  go_wp2
  rw [run_callFunc_extern Tryz.func152 (by kernel_rfl) (by kernel_rfl) (by kernel_rfl) (e := Extern.BytealgCompare.compare) (by kernel_rfl), Lib.run_compareString]
  simp only [Result.andThen]
  rw [Oper.upon_value]
  go_wp2
  go_ret
  exact ⟨rfl, rfl⟩

set_option maxHeartbeats 1000000 in
/-- strings.Compare: "Compare returns an integer comparing two strings lexicographically. The result will be 0 if a == b, -1 if a < b, and +1 if a > b.": IT RETURNS 'Lib.compareBytes a b'; the world is as it was. -/
theorem Tryz.strings_Compare (a b : ByteArray) (w : World) :
    Calls Tryz.prog 96 #[.string a, .string b] w fun e w' => e = .returned (.int .i64 (Lib.compareBytes a.data.toList b.data.toList)) ∧ w' = w := by
  go_enter Tryz.func96, Tryz.ntmps96
  go_wp2_with (go_at_call 121; refine (Tryz.bytealg_CompareString _ _ _).mono ?_; rintro e w' ⟨rfl, rfl⟩)
  go_ret
  exact ⟨rfl, rfl⟩
end Go.Proofs

/-
  strings.Join, strings.IndexByte, strings.Compare: the library's contracts, over this program; what the evaluator is told of them holds.
-/
namespace Go.DS
open Go Go.Proofs Go.Shelf
set_option linter.unusedVariables false
def jren : Ren := ⟨fun | 156 => 98 | 165 => 122 | 166 => 123 | 169 => 124 | 240 => 153 | 241 => 154 | 276 => 177 | 277 => 178 | n => n,
  fun | 0 => 0 | 3 => 3 | 4 => 4 | 5 => 5 | 9 => 9 | 20 => 20 | 31 => 32 | 37 => 172 | 70 => 171 | 72 => 174 | 75 => 177 | 80 => 180 | 76 => 178 | 127 => 205 | 164 => 221 | n => n, fun n => n⟩
theorem jlays : Lays.n156 Tryz.prog jren where
  mixed := by kernel_rfl
  f156 := by kernel_rfl
  f165 := by kernel_rfl
  f166 := by kernel_rfl
  f169 := by kernel_rfl
  f240 := by kernel_rfl
  f241 := by kernel_rfl
  f276 := by kernel_rfl
  f277 := by kernel_rfl
  t0 := Tryz.underlying0
  a0 := Tryz.isAgg0
  z0 := Tryz.sizeOf0
  v0 := Tryz.zeroValue0
  t3 := Tryz.underlying3
  a3 := Tryz.isAgg3
  z3 := Tryz.sizeOf3
  v3 := Tryz.zeroValue3
  t4 := Tryz.underlying4
  a4 := Tryz.isAgg4
  z4 := Tryz.sizeOf4
  v4 := Tryz.zeroValue4
  t9 := Tryz.underlying9
  a9 := Tryz.isAgg9
  z9 := Tryz.sizeOf9
  v9 := Tryz.zeroValue9
  t20 := Tryz.underlying20
  a20 := Tryz.isAgg20
  z20 := Tryz.sizeOf20
  v20 := Tryz.zeroValue20
  t31 := Tryz.underlying32
  a31 := Tryz.isAgg32
  z31 := Tryz.sizeOf32
  v31 := Tryz.zeroValue32
  t37 := Tryz.underlying172
  a37 := Tryz.isAgg172
  z37 := Tryz.sizeOf172
  v37 := Tryz.zeroValue172
  t70 := Tryz.underlying171
  a70 := Tryz.isAgg171
  z70 := Tryz.sizeOf171
  v70 := Tryz.zeroValue171
  t72 := Tryz.underlying174
  a72 := Tryz.isAgg174
  z72 := Tryz.sizeOf174
  v72 := Tryz.zeroValue174
  t75 := Tryz.underlying177
  a75 := Tryz.isAgg177
  z75 := Tryz.sizeOf177
  v75 := Tryz.zeroValue177
  t76 := Tryz.underlying178
  a76 := Tryz.isAgg178
  z76 := Tryz.sizeOf178
  v76 := Tryz.zeroValue178
  t127 := Tryz.underlying205
  a127 := Tryz.isAgg205
  z127 := Tryz.sizeOf205
  v127 := Tryz.zeroValue205
  t164 := Tryz.underlying221
  a164 := Tryz.isAgg221
  z164 := Tryz.sizeOf221
  v164 := Tryz.zeroValue221
theorem jextra : Builder.Extra Tryz.prog jren where
  sizeBuilder := by kernel_rfl
  liesBuilder := by kernel_rfl
  t5 := Tryz.underlying5
  a5 := Tryz.isAgg5
  z5 := Tryz.sizeOf5
  v5 := Tryz.zeroValue5
  infoByte := by kernel_rfl
  cellsByte := by kernel_rfl
  sizeByte := by kernel_rfl
  neB5 := by decide
end Go.DS

/-
  From the evaluator's answer to a call's contract; the library's functions.
-/
namespace Go.DS
open Go Go.Proofs Go.Shelf Go.RowKit
set_option linter.unusedVariables false
set_option linter.unusedSimpArgs false

/-- The ghost state ahead of a law's call: nothing of the old memory is ever written. -/
def gh0 (w : World) : Gh where
  n := 0
  η := fun _ => 0
  pc := fun b o => match w.cell? ⟨b, o, none⟩ with
    | some v => if v.oneCell' then some v else none
    | none => none
  kind := fun _ => .foreign
  one := fun b o v h => by
    split at h
    · split at h
      · rename_i hv; cases h; exact hv
      · cases h
    · cases h
theorem gh0_pc {w : World} {b o : Nat} {v : Value} (hc : w.cell? ⟨b, o, none⟩ = some v) (hv : v.oneCell' = true) : (gh0 w).pc b o = some v := by
  simp only [gh0, hc, hv, if_true]
theorem gh0_inv (w : World) : WInv (gh0 w) [] w where
  n := rfl
  pc b o v h := by
    simp only [gh0] at h
    split at h
    · split at h
      · cases h; assumption
      · cases h
    · cases h
  obj i o h := by simp at h

theorem start {P : Program} {C : Cfg} (hext : ExtS P C) {k : FuncId} {args : List DV} {r : Value} {h' : DHeap} (hl : lim P C k args [] = some (.sc r, h')) {vs : Array Value} (w : World) (hr : RelL (gh0 w) args vs.toList) :
    Calls P k vs w fun e w' => e = .returned r ∧ Below w.heap.size w w' := by
  refine (lim_sound hext _ _ _ _ _ hl 0 (gh0 w) w vs (gh0_inv w) hr).mono ?_
  rintro e w' ⟨g', v, s, rfl, hE, hW, hv, ho⟩
  have : v = r := by cases hv; rfl
  subst this
  exact ⟨rfl, hE.os, hE.tape, hE.output, hE.size, fun b hb => hE.heap b hb (by simp [gh0, Keep])⟩

/-- .. with what is said of the count of what was drawn. -/
theorem startM [M : Mono] {P : Program} {k : FuncId} {args : List DV} {r : Value} (hl : CallOK P k args [] (.sc r) []) {vs : Array Value} (w : World) (hr : RelL (gh0 w) args vs.toList) :
    Calls P k vs w fun e w' => e = .returned r ∧ Below w.heap.size w w' ∧ (M.on = true → w.drawn ≤ w'.drawn) := by
  refine (hl 0 (gh0 w) w vs (gh0_inv w) hr).mono ?_
  rintro e w' ⟨g', v, s, rfl, hE, hW, hv, ho⟩
  have : v = r := by cases hv; rfl
  subst this
  exact ⟨rfl, ⟨hE.os, hE.tape, hE.output, hE.size, fun b hb => hE.heap b hb (by simp [gh0, Keep])⟩, hE.drawn⟩

theorem below_touch [M : Mono] {g : Gh} {h : DHeap} {w w' : World} (hb : Below w.heap.size w w') (hdr : M.on = true → w.drawn ≤ w'.drawn) (hW : WInv g h w) : Touch w'.heap.size g g w w' where
  heap k _ hk := hb.block k hk
  pcb o v hv := hv
  pcx k _ := rfl
  pcw o v hv := by
    have := lt_of_cell (hW.pc _ _ _ hv)
    have := hb.size
    omega
  kind k _ := rfl
  n := Nat.le_refl _
  η _ _ := rfl
  size := hb.size
  os := hb.os
  tape := hb.tape
  output := hb.output
  drawn := hdr

/-- A function that leaves the old memory as it was, and hands back what names none. -/
theorem callOK_of [M : Mono] {P : Program} {k : FuncId} {args : List DV} {h : DHeap} {r : Value} (H : ∀ (g : Gh) (w : World) (vs : Array Value), WInv g h w → RelL g args vs.toList → Calls P k vs w fun e w' => e = .returned r ∧ Below w.heap.size w w' ∧ (M.on = true → w.drawn ≤ w'.drawn)) : CallOK P k args h (.sc r) h := by
  intro d g w vs hW hR
  refine (H g w vs hW hR).mono ?_
  rintro e w' ⟨rfl, hb, hdr⟩
  have ht := below_touch hb hdr hW
  exact ⟨g, r, 0, rfl, ht.ext (.inl hb.size), ht.winv rfl (.inl hb.size) hW, .sc r, .none rfl⟩

theorem sc_inv {g : Gh} {u v : Value} (h : RelV g (.sc u) v) : v = u := by cases h; rfl
theorem rel2 {g : Gh} {d e : DV} {vs : Array Value} (h : RelL g [d, e] vs.toList) : ∃ u v, vs = #[u, v] ∧ RelV g d u ∧ RelV g e v := by
  obtain ⟨u, us, h1, hu, h2⟩ := h.cons_inv
  obtain ⟨v, us', rfl, hv, h3⟩ := h2.cons_inv
  have := h3.nil_inv
  subst this
  exact ⟨u, v, by rw [← Array.toList_inj]; exact h1, hu, hv⟩

theorem index_ok [M : Mono] {s : ByteArray} {c : Int} {h : DHeap} : CallOK Tryz.prog 119 [.sc (.string s), .sc (.int .u8 c)] h (.sc (.int .i64 (Lib.indexByte s.data.toList (byteOf c)))) h :=
  callOK_of fun g w vs hW hR => by
    obtain ⟨u, v, rfl, hu, hv⟩ := rel2 hR
    obtain rfl := sc_inv hu
    obtain rfl := sc_inv hv
    refine (Tryz.strings_IndexByte s c w).mono ?_
    rintro e w' ⟨rfl, rfl⟩
    exact ⟨rfl, Below.refl _ _, fun _ => Nat.le_refl _⟩
theorem compare_ok [M : Mono] {s u : ByteArray} {h : DHeap} : CallOK Tryz.prog 96 [.sc (.string s), .sc (.string u)] h (.sc (.int .i64 (Lib.compareBytes s.data.toList u.data.toList))) h :=
  callOK_of fun g w vs hW hR => by
    obtain ⟨a, b, rfl, hu, hv⟩ := rel2 hR
    obtain rfl := sc_inv hu
    obtain rfl := sc_inv hv
    refine (Tryz.strings_Compare s u w).mono ?_
    rintro e w' ⟨rfl, rfl⟩
    exact ⟨rfl, Below.refl _ _, fun _ => Nat.le_refl _⟩
theorem strsOf_get : ∀ {l : List (List DV)} {xs : List Str}, strsOf l = some xs → l = xs.map fun s => [.sc (.string (mkB s))]
  | [], xs, h => by simp [strsOf] at h; subst h; rfl
  | r :: l, xs, h => by
    unfold strsOf at h
    split at h
    · rename_i heq; cases heq
    · rename_i s l' heq
      cases heq
      split at h
      · rename_i q hq
        cases h
        rw [List.map_cons, ← strsOf_get hq]
        rfl
      · cases h
    · cases h
theorem flat_one (xs : List Str) : (xs.map fun s => [DV.sc (.string (mkB s))]).flatten = xs.map fun s => DV.sc (.string (mkB s)) := by
  induction xs with
  | nil => rfl
  | cons x xs ih => simp only [List.map_cons, List.flatten_cons, ih]; rfl
theorem join_ok' {own : Bool} {l : List (List DV)} {s : ByteArray} {xs : List Str} {h : DHeap} (hx : strsOf l = some xs) (h1 : xs.length ≤ 1048576) (h2 : (Lib.join xs s.data.toList).length ≤ 1099511627776) :
    CallOK Tryz.prog 98 [.list own 1 l, .sc (.string s)] h (.sc (.string (mkB (Lib.join xs s.data.toList)))) h :=
  callOK_of fun g w vs hW hR => by
    obtain ⟨a, b, rfl, hu, hv⟩ := rel2 hR
    obtain rfl := sc_inv hv
    have hl := strsOf_get hx
    subst hl
    have hxs : (xs.map mkB).map (·.data.toList) = xs := by rw [List.map_map]; exact List.map_id' xs
    generalize hll : (xs.map fun s => [DV.sc (.string (mkB s))]) = ll at hu
    cases hu with
    | list q1 q2 q3 q4 q5 =>
      subst hll
      rename_i cap b off vs
      rw [flat_one] at q3 q4
      have hcells : ∀ (j : Nat) x, (xs.map mkB)[j]? = some x → w.cell? ⟨b, off + j, none⟩ = some (.string x) := fun j x hj => by
        rw [List.getElem?_map] at hj
        cases hxj : xs[j]? with
        | none => rw [hxj] at hj; cases hj
        | some y =>
          rw [hxj] at hj
          cases hj
          have hj1 : (xs.map fun s => DV.sc (.string (mkB s)))[j]? = some (.sc (.string (mkB y))) := by rw [List.getElem?_map, hxj]; rfl
          obtain ⟨v, hv1, hv2⟩ := RelL.get ⟨q3, q4⟩ hj1
          obtain rfl := sc_inv hv2
          exact hW.pc _ _ _ (q5 j _ hv1)
      cases xs with
      | nil =>
        refine (Any.strings_Join_none jlays jextra _ _ s w).mono ?_
        rintro e w' ⟨rfl, rfl⟩
        exact ⟨rfl, Below.refl _ _, fun _ => Nat.le_refl _⟩
      | cons x xs =>
        have hbk : b < w.heap.size := lt_of_cell (hcells 0 (mkB x) rfl)
        have := Any.strings_Join jlays jextra b off cap ((x :: xs).map mkB) s w hcells hbk (by simp at h1 ⊢; omega) (by simpa using q1) (by rw [hxs]; omega)
        rw [hxs] at this
        simp only [List.length_map] at this q1 ⊢
        refine Calls.mono this ?_
        rintro e w' ⟨rfl, hb⟩
        exact ⟨rfl, hb, fun hm => nomatch hm⟩
    | empty =>
      have : xs = [] := by cases xs with
        | nil => rfl
        | cons => simp at hll
      subst this
      refine (Any.strings_Join_none jlays jextra _ _ s w).mono ?_
      rintro e w' ⟨rfl, rfl⟩
      exact ⟨rfl, Below.refl _ _, fun _ => Nat.le_refl _⟩

end Go.DS

/-
  From a contract of the kit's to what the evaluator is told: a new slice that the call owns.
-/
namespace Go.DS
open Go Go.Proofs Go.RowKit
set_option linter.unusedVariables false
set_option linter.unusedSimpArgs false

theorem own_touch {g : Gh} {h : DHeap} {w w' : World} {gb : Nat} {cur : Array Value} {e : TypeId} {xs : List Value} (hW : WInv g h w) (hb : Below w.heap.size w w') (hg : w.heap.size ≤ gb) (hc : w'.heap[gb]? = some (.cells cur e (0, 0)))
    (hx : ∀ (k : Nat) (v : Value), xs[k]? = some v → cur[k]? = some v) (k : Kind) (h1 : ∀ u ∈ xs, u.oneCell' = true) : Touch gb g (g.prot gb xs k h1) w w' where
  heap j _ hj := hb.block j hj
  pcb o v hv := by
    have := lt_of_cell (hW.pc _ _ _ hv)
    omega
  pcx j hj := by
    funext o
    simp only [Gh.prot, if_neg hj]
  pcw o v hv := by
    simp only [Gh.prot, if_true] at hv
    have := hx o v hv
    simp [World.cell?, hc, this]
  kind j hj := by simp only [Gh.prot, if_neg hj]
  n := Nat.le_refl _
  η _ _ := rfl
  size := hb.size
  os := hb.os
  tape := hb.tape
  output := hb.output
  drawn hm := nomatch hm

/-- A new slice that the call owns, as a clean value. -/
theorem own_result {g : Gh} {h : DHeap} {w w' : World} {d : Nat} (hW : WInv g h w) (hb : Below w.heap.size w w') {e : TypeId} {size n : Nat} {v : Value} {xs : List Value} (hr : w'.ownsRow w.heap.size e size v n xs)
    {l : List (List DV)} (hl : l.length = n) (hes : ∀ r ∈ l, r.length = size) (hrel : RelL g l.flatten xs) (hcell : l.flatten.all DV.cell = true) :
    ∃ g' s, Ext d g g' w w' ∧ WInv g' h w' ∧ RelV g' (.list true size l) v ∧ OwnAt g' w' (.ownSlot d s) (.list true size l) v := by
  obtain ⟨hxl, ⟨rfl, hn⟩ | ⟨gb, cap, cur, rfl, hge, hc, hnc, _, hcs, htk⟩⟩ := hr
  · have ht := below_touch hb (fun hm => nomatch hm) hW
    have : l = [] := List.eq_nil_of_length_eq_zero (hl.trans hn)
    subst this
    exact ⟨g, 0, ht.ext (.inl hb.size), ht.winv rfl (.inl hb.size) hW, .empty, .mk_list fun h => by simp at h⟩
  · have h1 := relL_one hrel hcell
    have hx : ∀ k v, xs[k]? = some v → cur[k]? = some v := fun k v hv => by
      rw [← htk, List.getElem?_take] at hv
      split at hv
      · simpa using hv
      · cases hv
    have ht := own_touch hW hb hge hc hx (.ownSlot d 0) h1
    have hpc : ∀ k v, xs[k]? = some v → (g.prot gb xs (.ownSlot d 0) h1).pc gb (0 + k) = some v := fun k v hv => by
      simp only [Gh.prot, if_true, Nat.zero_add]; exact hv
    subst hl
    refine ⟨_, 0, ht.ext (.inl hge), ht.winv rfl (.inl hge) hW, .list hnc hes (hrel.mono ht.le).len (hrel.mono ht.le).at_ hpc, .mk_list fun hlt => ⟨gb, 0, cur, e, rfl, ?_, hc, ?_, ?_⟩⟩
    · simp [Gh.prot]
    · rw [hcs]; omega
    · intro o ho
      simp only [Gh.prot, if_true]
      exact List.getElem?_eq_none (by omega)

/-- A function that makes a new slice, and leaves the old memory as it was. -/
theorem callOK_row {P : Program} {k : FuncId} {args : List DV} {h : DHeap} {size : Nat} {l : List (List DV)} (hes : ∀ r ∈ l, r.length = size) (hcell : l.flatten.all DV.cell = true)
    (H : ∀ (g : Gh) (w : World) (vs : Array Value), WInv g h w → RelL g args vs.toList → Calls P k vs w fun e w' => ∃ v xs t, e = .returned v ∧ Below w.heap.size w w' ∧ w'.ownsRow w.heap.size t size v l.length xs ∧ RelL g l.flatten xs) :
    CallOK P k args h (.list true size l) h := by
  intro d g w vs hW hR
  refine (H g w vs hW hR).mono ?_
  rintro e w' ⟨v, xs, t, rfl, hb, hr, hrel⟩
  obtain ⟨g', s, h1, h2, h3, h4⟩ := own_result (d := d) hW hb hr rfl hes hrel hcell
  exact ⟨g', v, s, rfl, h1, h2, h3, h4⟩
end Go.DS

/-
  A loop over a map, step by step, by what its block holds.
-/
namespace Go.DS
open Go Go.Proofs Go.RowKit Go.Maps Go.ChangeMaps Go.MapKept
set_option linter.unusedVariables false
set_option linter.unusedSimpArgs false

/-- A loop over a map is under way: these entries have come. -/
structure Iter (w : World) (b r : Nat) (ents : Array MapEntry) (clk : Nat) (done : List MapEntry) : Prop where
  map : w.heap[b]? = some (.map ents clk)
  it : ∃ seen c0, w.heap[r]? = some (.mapIter (some b) clk seen c0) ∧ clk ≤ c0 ∧ ∀ e ∈ ents.toList, (seen.contains e.born = true ↔ e ∈ done)
  nodup : (done.map (·.born)).Nodup
  sub : ∀ e ∈ done, e ∈ ents.toList

theorem set_block {w : World} {r : Nat} {o o' : Obj} (h : w.heap[r]? = some o) : (setBlock w r o').heap[r]? = some o' ∧ ∀ j, j ≠ r → (setBlock w r o').heap[j]? = w.heap[j]? := by
  have hlt := (Array.getElem?_eq_some_iff.1 h).1
  constructor
  · simp [setBlock, Array.getElem?_setIfInBounds, hlt]
  · intro j hj
    simp [setBlock, Array.getElem?_setIfInBounds, Ne.symm hj]
theorem stamp_inj {ents : List MapEntry} {clk : Nat} (h : Stamped ents clk) {e f : MapEntry} (he : e ∈ ents) (hf : f ∈ ents) (hb : e.born = f.born) : e = f := by
  obtain ⟨i, hi, rfl⟩ := List.getElem_of_mem he
  obtain ⟨j, hj, rfl⟩ := List.getElem_of_mem hf
  have h2 := h.2
  have : (ents.map (·.born))[i]'(by simpa using hi) = (ents.map (·.born))[j]'(by simpa using hj) := by simpa using hb
  have := (List.getElem_inj h2).1 this
  subst this
  rfl

section
variable {P : Program} {ops : Array Oper} {rest : List Oper} {o : Oper} {a : Act} {Q : Exit → Act → World → Prop} {w : World} {b : Nat} {ents : Array MapEntry} {clk : Nat}

theorem wpList_range_raw (hg : o.guard = none) (m : Operand) (t k e : TypeId) (hop : o.op = .range t m) (ht : P.underlying t = some (.map k e)) (hm : a.eval m = .map (some b)) (hb : w.heap[b]? = some (.map ents clk))
    (hK : Iter (w.alloc (.mapIter (some b) clk #[] clk)) b w.heap.size ents clk [] → wpList P ops Q rest (a.put o.dst (.pointer (some ⟨w.heap.size, 0, none⟩))) (w.alloc (.mapIter (some b) clk #[] clk))) :
    wpList P ops Q (o :: rest) a w := by
  refine wpList_plain hg fun K' hK' => ?_
  have hlt := (Array.getElem?_eq_some_iff.1 hb).1
  unfold Oper.wp
  simp [execOp, hop, hm, Instr.range, run_underlying ht, MapKept.run_getObj_map hb, Result.andThen]
  refine hK' _ _ (hK ⟨(Below.heap_alloc _ _ b hlt).trans hb, ⟨#[], clk, heap_new w _, Nat.le_refl _, fun e he => by simp⟩, by simp, by simp⟩)

theorem wpList_next_raw {r : Nat} {done : List MapEntry} (hg : o.guard = none) (it : Operand) (hop : o.op = .next it false) (hit : a.eval it = .pointer (some ⟨r, 0, none⟩)) (h : Iter w b r ents clk done) (hst : Stamped ents.toList clk)
    (hDone : (∀ e ∈ ents.toList, e ∈ done) → wpList P ops Q rest (a.put o.dst (.tuple #[.bool false])) w)
    (hMore : ∀ e ∈ ents.toList, e ∉ done → ∀ w', Iter w' b r ents clk (done ++ [e]) → w.grownBy w' (some r) → w'.heap.size = w.heap.size → wpList P ops Q rest (a.put o.dst (.tuple #[.bool true, e.key, e.val])) w') :
    wpList P ops Q (o :: rest) a w := by
  refine wpList_plain hg fun K' hK' => ?_
  obtain ⟨hb, ⟨seen, c0, hr, hc, hs⟩, hn, hsub⟩ := h
  have hne : r ≠ b := fun e => by rw [e, hb] at hr; cases hr
  unfold Oper.wp
  rcases run_next_at (P := P) w o.type r b clk c0 seen ents clk hr hb hst.1 hc with ⟨h0, hrun⟩ | ⟨e, he, w1, hal, hrun⟩
  · simp [execOp, hop, hit, hrun, Result.andThen]
    refine hK' _ _ (hDone fun e he => (hs e he).1 ?_)
    exact all_seen ents seen h0 e he
  · obtain ⟨hem, hes⟩ := mem_left he
    have hnd : e ∉ done := fun hd => by rw [(hs e hem).2 hd] at hes; cases hes
    have hr1 : w1.heap[r]? = some (.mapIter (some b) clk seen c0) := by rcases hal with rfl | rfl <;> exact hr
    have hb1 : w1.heap[b]? = some (.map ents clk) := by rcases hal with rfl | rfl <;> exact hb
    have hset := set_block (o' := .mapIter (some b) clk (seen.push e.born) clk) hr1
    simp [execOp, hop, hit, hrun, Result.andThen]
    refine hK' _ _ (hMore e hem hnd _ ⟨(hset.2 b (fun e1 => hne e1.symm)).trans hb1, ⟨_, clk, hset.1, Nat.le_refl _, fun x hx => ?_⟩, ?_, ?_⟩ ?_ ?_)
    · rw [contains_push, Bool.or_eq_true, hs x hx, List.mem_append, List.mem_singleton, beq_iff_eq]
      exact or_congr Iff.rfl ⟨fun hb => stamp_inj hst hx hem hb, fun hb => by rw [hb]⟩
    · rw [List.map_append, List.nodup_append]
      refine ⟨hn, by simp, fun x hx y hy => ?_⟩
      obtain ⟨z, hz, rfl⟩ := List.mem_map.1 hx
      rw [List.map_cons, List.map_nil, List.mem_singleton] at hy
      subst hy
      exact fun e1 => hnd (stamp_inj hst (hsub z hz) hem e1 ▸ hz)
    · intro x hx
      rcases List.mem_append.1 hx with hx | hx
      · exact hsub x hx
      · rw [List.mem_singleton.1 hx]; exact hem
    · rcases hal with rfl | rfl <;> exact ⟨rfl, rfl, rfl, by simp [setBlock], fun i _ hi => hset.2 i (fun e1 => hi (by rw [e1]))⟩
    · rcases hal with rfl | rfl <;> simp [setBlock]
theorem Iter.left_lt {r : Nat} {done : List MapEntry} (h : Iter w b r ents clk done) : done.length ≤ ents.size := by
  have h1 : (done.map (·.born)).length ≤ (ents.toList.map (·.born)).length := by
    refine List.Nodup.length_le_of_subset h.nodup fun x hx => ?_
    obtain ⟨e, he, rfl⟩ := List.mem_map.1 hx
    exact List.mem_map_of_mem (h.sub e he)
  simpa using h1
end
end Go.DS

/-
  maps.Clone, slices.SortFunc, and maps' keys as the evaluator has them.
-/
namespace Go.DS
open Go Go.Proofs Go.Shelf Go.RowKit Go.Sort Go.Maps Go.ChangeMaps Go.MapKept
set_option linter.unusedVariables false
set_option linter.unusedSimpArgs false

theorem rel1 {g : Gh} {d : DV} {vs : Array Value} (h : RelL g [d] vs.toList) : ∃ u, vs = #[u] ∧ RelV g d u := by
  obtain ⟨u, us, h1, hu, h2⟩ := h.cons_inv
  have := h2.nil_inv
  subst this
  exact ⟨u, by rw [← Array.toList_inj]; exact h1, hu⟩
theorem mp_inv {g : Gh} {i : Nat} {v : Value} (h : RelV g (.mp i) v) : i < g.n ∧ v = .map (some (g.η i)) := by
  cases h with
  | mp hi => exact ⟨hi, rfl⟩
theorem ptr_inv {g : Gh} {i off : Nat} {v : Value} (h : RelV g (.ptr i off) v) : i < g.n ∧ v = .pointer (some ⟨g.η i, off, none⟩) := by
  cases h with
  | ptr hi => exact ⟨hi, rfl⟩

theorem clone_ok_of {P : Program} {ρ : Ren} (L : SlLaysW.n5 P ρ) {args : List DV} {h : DHeap} {r : DV} {h' : DHeap} (hx : cloneF args h = some (r, h')) : CallOK P (ρ.f 5) args h r h' := by
  unfold cloneF at hx
  split at hx
  · rename_i h0 i
    split at hx
    · rename_i es hes
      cases hx
      intro d g w vs hW hR
      obtain ⟨u, rfl, hu⟩ := rel1 hR
      obtain ⟨hi, rfl⟩ := mp_inv hu
      obtain ⟨ents, clk, a1, a2, a3, a4, a5⟩ := hW.obj i _ hes
      refine (AnyW.maps_Clone L (g.η i) ents clk w a1).mono ?_
      rintro e w' ⟨rfl, rfl⟩
      have htouch := touch_addObj hW.pc (.map ents clk)
      have hη : (g.addObj w.heap.size).η g.n = w.heap.size := by simp [Gh.addObj]
      have hheld : HeldMap (g.addObj w.heap.size) (w.alloc (.map ents clk)) w.heap.size (.obj g.n) es :=
        ⟨ents, clk, heap_new w _, by simp [Gh.addObj], fun o' => pc_fresh hW.pc (Nat.le_refl _) o', ⟨a4.len, fun k x y hx hy => ⟨(a4.at_ k x y hx hy).1.mono htouch.le, (a4.at_ k x y hx hy).2.mono htouch.le⟩⟩, a5⟩
      refine ⟨_, _, 0, rfl, htouch.ext (.inl (Nat.le_refl _)), winv_push hW (by simp only [RelO, hη]; exact hheld), ?_, .none rfl⟩
      have := RelV.mp (g := g.addObj w.heap.size) (i := g.n) (by simp [Gh.addObj])
      rw [hη, ← hW.n] at this
      exact this
    · cases hx
  · cases hx

/-- A later world, by blocks that came, and by draws. -/
theorem grow_of_below {w w' : World} (hb : Below w.heap.size w w') (hd : w.drawn ≤ w'.drawn) : ∃ q os', w' = grow (w.drewN q) os' := by
  refine ⟨w'.drawn - w.drawn, w'.heap.extract w.heap.size w'.heap.size, ?_⟩
  have hh : w'.heap = w.heap ++ w'.heap.extract w.heap.size w'.heap.size := by
    apply Array.ext_getElem?
    intro k
    rw [Array.getElem?_append]
    by_cases hk : k < w.heap.size
    · rw [if_pos hk, hb.block k hk]
    · rw [if_neg hk, Array.getElem?_extract]
      have := hb.size
      by_cases hk' : k < w'.heap.size
      · rw [if_pos (by omega)]; congr 1; omega
      · rw [if_neg (by omega), Array.getElem?_eq_none (by omega)]
  cases w' with
  | mk heap tape drawn os output =>
    have e1 := hb.os
    have e2 := hb.tape
    have e3 := hb.output
    simp only at e1 e2 e3 hh hd
    simp only [grow, World.drewN, World.mk.injEq]
    exact ⟨hh, e2, by omega, e1, e3⟩

/-- One of these texts. -/
abbrev Of (ks : List Str) := { s : Str // s ∈ ks }
def encO (ks : List Str) (x : Of ks) : Value := .string (mkB x.1)
theorem relL_txt {g : Gh} {a b : Str} : RelL g [txt a, txt b] [Value.string (mkB a), .string (mkB b)] := .cons (.sc _) (.cons (.sc _) (.nil _))
theorem sortC_map {cf : Str → Str → Int} (ks : List Str) (l : List (Of ks)) : (l.mergeSort fun x y => !(ltOf fun (a b : Of ks) => cf a.1 b.1) y x).map (·.1) = sortC cf (l.map (·.1)) := by
  unfold sortC
  exact List.map_mergeSort fun a _ b _ => rfl
theorem SortOK.swo {P : Program} {o : FuncId} {cf : Str → Str → Int} {ks : List Str} (H : SortOK P o cf ks) : SWO (ltOf fun (a b : Of ks) => cf a.1 b.1) where
  irrefl x := by simp only [ltOf, decide_eq_false_iff_not]; exact H.irrefl x.1 x.2
  trans x y z := by simp only [ltOf, decide_eq_true_eq]; exact H.trans x.1 x.2 y.1 y.2 z.1 z.2
  ntrans x y z := by simp only [ltOf, decide_eq_false_iff_not]; exact H.ntrans x.1 x.2 y.1 y.2 z.1 z.2
/-- Sorted it is the same in whatever order it came. -/
theorem sortC_perm {P : Program} {o : FuncId} {cf : Str → Str → Int} {ks l : List Str} (H : SortOK P o cf ks) (hp : l.Perm ks) : sortC cf l = sortC cf ks := by
  have hm : ∀ x ∈ l, x ∈ ks := fun x hx => hp.mem_iff.1 hx
  unfold sortC
  have htr : ∀ a ∈ ks, ∀ b ∈ ks, ∀ c ∈ ks, (!decide (cf b a < 0)) = true → (!decide (cf c b < 0)) = true → (!decide (cf c a < 0)) = true := fun a ha b hb c hc => by
    simp only [Bool.not_eq_true', decide_eq_false_iff_not]
    exact fun h1 h2 => H.ntrans c hc b hb a ha h2 h1
  have htot : ∀ a ∈ ks, ∀ b ∈ ks, ((!decide (cf b a < 0)) || (!decide (cf a b < 0))) = true := fun a ha b hb => by
    by_cases h1 : cf b a < 0
    · by_cases h2 : cf a b < 0
      · exact absurd (H.trans a ha b hb a ha h2 h1) (H.irrefl a ha)
      · simp [h2]
    · simp [h1]
  have s1 : ∀ m : List Str, (∀ x ∈ m, x ∈ ks) → (m.mergeSort fun x y => !decide (cf y x < 0)).Pairwise fun a b => (!decide (cf b a < 0)) = true := fun m hm => by
    have e : m = (m.attachWith (· ∈ ks) hm).map (·.1) := by simp
    rw [e, ← List.map_mergeSort (r := fun (x y : Of ks) => !decide (cf y.1 x.1 < 0)) (fun a _ b _ => rfl), List.pairwise_map]
    exact List.pairwise_mergeSort (fun a b c => htr a.1 a.2 b.1 b.2 c.1 c.2) (fun a b => htot a.1 a.2 b.1 b.2) _
  refine List.Perm.eq_of_pairwise ?_ (s1 l hm) (s1 ks fun _ hx => hx) ((List.mergeSort_perm l _).trans (hp.trans (List.mergeSort_perm ks _).symm))
  intro a b ha hb h1 h2
  have ha' := hm a ((List.mergeSort_perm l _).mem_iff.1 ha)
  have hb' := (List.mergeSort_perm ks _).mem_iff.1 hb
  simp only [Bool.not_eq_true', decide_eq_false_iff_not] at h1 h2
  exact H.total a ha' b hb' h2 h1
end Go.DS

/-
  slices.Clone.
-/
namespace Go.DS
open Go Go.Proofs Go.Shelf Go.RowKit Go.Lib
set_option linter.unusedVariables false
set_option linter.unusedSimpArgs false
set_option maxHeartbeats 2000000 in
set_option maxRecDepth 100000 in
/-- Of an empty slice that is not nil. -/
theorem cloneE0 {P : Program} {ρ : Ren} (L : SlLaysE0.n41 P ρ) (i0 : TypeInfo) (z : Value) (size bytes : Nat) (hi : P.info? (ρ.t 23) = some i0) (hz0 : i0.zero = some z) (hz1 : i0.size = size) (hz2 : i0.bytes = bytes) (hzs : z.cells.size = size) (hsz : 0 < size)
    (z23 : ∀ w, (Go.sizeOf (ρ.t 23)).run P w = .ok size w) (ad : Addr) (c : Nat) (w : World) :
    Calls P (ρ.f 41) #[.slice (some ad) 0 c] w fun e w' => ∃ v', e = .returned v' ∧ w'.ownsRow w.heap.size (ρ.t 23) size v' 0 [] ∧ Below w.heap.size w w' := by
  have mixed := L.mixed; have t4 := L.t4; have a4 := L.a4; have z4 := L.z4; have v4 := L.v4; have t22 := L.t22; have a22 := L.a22; have z22 := L.z22; have v22 := L.v22
  have q22 : ∀ (w : World) (a : Option Addr) (n c n' c' : Nat), (binOp .eql (ρ.t 22) (.slice a n c) (.slice none n' c')).run P w = .ok (.bool a.isNone) w := fun w a n c n' c' => Lib.run_eql_slice_nil w _ _ a n c n' c' L.t22
  have u22 : ∀ w, Sem.run P (underlying (ρ.t 22)) w = .ok (TypeDesc.slice (ρ.t 23)) w := run_underlying t22
  obtain ⟨_, _, FG⟩ := L.f41
  go_enter FG, SlBodyN.n41_ntmps ρ
  go_wp2_with (at_builtin; refine wpList_append_own _ rfl _ _ (ρ.t 22) rfl w.heap.size (ρ.t 23) i0 z size bytes t22 hi hz0 hz1 hz2 hzs hsz _ _ _ rfl (World.ownsRow_made w #[] 0 (Nat.le_refl _) (Nat.zero_le _) (by simp)) ad 0 c [] rfl ?qc1 ?qc2 ?qc3 ?qc4 ?qc5 ?qc6 ?_)
  case qc1 => simp
  case qc2 => intro j u hj; simp at hj
  case qc3 => intro u hu; simp at hu
  case qc4 => simp
  case qc5 => simp
  case qc6 => simp
  intro v' w1 hown hgrow hnil
  go_wp2
  go_ret
  exact ⟨v', rfl, by simpa using hown, ((Below.refl _ w).alloc (Nat.le_refl _) _).grown hgrow (by simp) (by intro k hk; simp [Value.ownBlock] at hk; omega)⟩
theorem cloneL_ok_of {P : Program} {ρ : Ren} (L : SlLaysE0.n41 P ρ) (i0 : TypeInfo) (z : Value) (size bytes : Nat) (hi : P.info? (ρ.t 23) = some i0) (hz0 : i0.zero = some z) (hz1 : i0.size = size) (hz2 : i0.bytes = bytes) (hzs : z.cells.size = size) (hsz : 0 < size)
    (hbb : bytes ≤ 1048576) (z23 : ∀ w, (Go.sizeOf (ρ.t 23)).run P w = .ok size w) {args : List DV} {h : DHeap} {r : DV} {h' : DHeap} (hx : cloneLF size args h = some (r, h')) : CallOK P (ρ.f 41) args h r h' := by
  unfold cloneLF at hx
  split at hx
  · rename_i h0 own es l
    split at hx
    · rename_i hc
      obtain ⟨rfl, hlen, hrow, hcell⟩ := hc
      cases hx
      refine callOK_row hrow hcell fun g w vs hW hR => ?_
      obtain ⟨u, rfl, hu⟩ := rel1 hR
      cases hu with
      | list h1 h2 h3 h4 h5 =>
        rename_i cap b off vs
        have hfl : l.flatten.length = l.length * es := by
          clear h3 h4 h5 hR hlen hcell h1
          induction l with
          | nil => simp
          | cons x l ih =>
            rw [List.flatten_cons, List.length_append, h2 x List.mem_cons_self, ih (fun r hr => hrow r (List.mem_cons_of_mem _ hr)) (fun r hr => h2 r (List.mem_cons_of_mem _ hr)), List.length_cons, Nat.succ_mul, Nat.add_comm]
        refine (AnyE.slices_Clone L i0 z es bytes hi hz0 hz1 hz2 hzs hsz z23 b off l.length cap vs w (by rw [← h3, hfl]) (by simp only [maxLen]; omega) ?_ (fun j u hj => hW.pc _ _ _ (h5 j u hj)) (fun u hu => by
          obtain ⟨j, hj, rfl⟩ := List.getElem_of_mem hu
          exact g.one _ _ _ (h5 j _ (List.getElem?_eq_getElem hj)))).mono ?_
        · calc l.length * bytes ≤ 1048576 * 1048576 := Nat.mul_le_mul hlen hbb
            _ ≤ 140737488355328 := by decide
        · rintro e w' ⟨v', rfl, hr, _, hb⟩
          exact ⟨v', vs, _, rfl, hb, hr, ⟨h3, h4⟩⟩
      | empty =>
        rename_i a cap
        cases a with
        | none =>
          refine (AnyE.slices_Clone_nil L 0 cap w).mono ?_
          rintro e w' ⟨rfl, rfl⟩
          exact ⟨_, [], ρ.t 23, rfl, .refl _ _, ⟨by simp, .inl ⟨rfl, rfl⟩⟩, .nil _⟩
        | some ad =>
          refine (cloneE0 L i0 z es bytes hi hz0 hz1 hz2 hzs hsz z23 ad cap w).mono ?_
          rintro e w' ⟨v', rfl, hr, hb⟩
          exact ⟨v', [], _, rfl, hb, hr, .nil _⟩
    · cases hx
  · cases hx
theorem infoC {P : Program} {t : TypeId} {z : Value} {s b : Nat} (h : (P.info? t).map (fun i => (i.zero, i.size, i.bytes)) = some (some z, s, b)) : ∃ i, P.info? t = some i ∧ i.zero = some z ∧ i.size = s ∧ i.bytes = b := by
  cases hi : P.info? t with
  | none => rw [hi] at h; cases h
  | some i => rw [hi] at h; simp only [Option.map_some, Option.some.injEq, Prod.mk.injEq] at h; exact ⟨i, rfl, h.1, h.2.1, h.2.2⟩
def cllays_ren : Ren := ⟨fun | 41 => 57 | n => n,
  fun | 22 => 32 | 23 => 9 | 4 => 4 | n => n,
  fun n => n⟩
theorem cllays : SlLaysE0.n41 Tryz.prog cllays_ren where
  mixed := by kernel_rfl
  f41 := ⟨"slices.Clone[[]string,string]", of_decide_eq_true (by kernel_rfl), Tryz.func57.trans (congrArg some (by kernel_rfl))⟩
  t4 := Tryz.underlying4
  a4 := Tryz.isAgg4
  z4 := Tryz.sizeOf4
  v4 := Tryz.zeroValue4
  t22 := Tryz.underlying32
  a22 := Tryz.isAgg32
  z22 := Tryz.sizeOf32
  v22 := Tryz.zeroValue32
theorem cloneLs_ok {args : List DV} {h : DHeap} {r : DV} {h' : DHeap} (hx : cloneLF 1 args h = some (r, h')) : CallOK Tryz.prog 57 args h r h' := by
  obtain ⟨i0, hi, hz0, hz1, hz2⟩ := infoC (P := Tryz.prog) (t := 9) (z := .string ⟨#[]⟩) (s := 1) (b := 16) (by kernel_rfl)
  exact cloneL_ok_of cllays i0 (.string ⟨#[]⟩) 1 16 hi hz0 hz1 hz2 rfl (by decide) (by decide) Tryz.sizeOf9 hx
end Go.DS

/-
  slices.SortFunc over a list of texts that the call owns.
-/
namespace Go.DS
open Go Go.Proofs Go.Shelf Go.RowKit Go.Sort Go.Maps Go.ChangeMaps Go.MapKept
set_option linter.unusedVariables false
set_option linter.unusedSimpArgs false
abbrev txtV (s : Str) : Value := .string (mkB s)
theorem enters_ok {P : Program} {k : FuncId} (h : calleeOK P k = true) (args : Array Value) (w : World) : (callFunc k args).run P w = .ok (.enter k args) w := by
  unfold calleeOK at h
  cases hf : P.funcs[k]? with
  | none => rw [hf] at h; cases h
  | some fn =>
    rw [hf] at h
    simp only [Bool.and_eq_true, Bool.not_eq_true', Option.isSome_iff_exists] at h
    obtain ⟨⟨c, hb⟩, hne⟩ := h
    have hne' : ¬ (fn.name = "runtime.NumGoroutine") := by simpa using hne
    simp [callFunc, hf, hb, hne']
theorem cmp_lays {P : Program} {o : FuncId} {cf : Str → Str → Int} {ks : List Str} [Inhabited (Of ks)] (H : SortOK P o cf ks) (blk off size : Nat) (w : World) : CmpLays1 P o #[] (encO ks) (fun a b => cf a.1 b.1) blk off size w := by
  intro m os dk _ x y
  generalize sortWorld (encO ks) w blk off m dk os = W
  refine (@startM ⟨true⟩ P o _ _ (H.call x.1 x.2 y.1 y.2) (#[encO ks x, encO ks y] ++ #[]) W relL_txt).mono ?_
  rintro e w' ⟨rfl, hb, hd⟩
  exact ⟨rfl, grow_of_below hb (hd rfl)⟩
theorem heap_sortWorld {α : Type} [Inhabited α] {enc : α → Value} {w : World} {b n : Nat} {d : Array α} {os : Array Obj} {cur : Array Value} {e : TypeId} (h : w.heap[b]? = some (.cells cur e (0, 0))) :
    (sortWorld enc w b 0 n d os).heap[b]? = some (.cells (Sort.putCells enc 0 d cur) e (0, 0)) ∧ (∀ k, k < w.heap.size → k ≠ b → (sortWorld enc w b 0 n d os).heap[k]? = w.heap[k]?) ∧ w.heap.size ≤ (sortWorld enc w b 0 n d os).heap.size := by
  have hlt := (Array.getElem?_eq_some_iff.1 h).1
  have e0 : (sortWorld enc w b 0 n d os).heap = w.heap.modify b (onCells (Sort.putCells enc 0 d)) ++ os := rfl
  rw [e0]
  refine ⟨?_, fun k hk hne => ?_, by simp⟩
  · rw [Array.getElem?_append, if_pos (by simpa using hlt), Array.getElem?_modify, if_pos rfl, h]; rfl
  · rw [Array.getElem?_append, if_pos (by simpa using hk), Array.getElem?_modify, if_neg (Ne.symm hne)]
theorem take_put {α : Type} [Inhabited α] {enc : α → Value} {d : List α} {cur : Array Value} (h : d.length ≤ cur.size) : (Sort.putCells enc 0 d.toArray cur).toList.take d.length = d.map enc := by
  apply List.ext_getElem?
  intro j
  rw [List.getElem?_take, List.getElem?_map]
  by_cases hj : j < d.length
  · rw [if_pos hj, Array.getElem?_toList, Sort.putCells, Array.getElem?_mapIdx, Array.getElem?_eq_getElem (by omega)]
    simp [hj, getElem!_pos]
  · rw [if_neg hj, List.getElem?_eq_none (by omega)]; rfl
theorem sort_row {P : Program} {ρ : Ren} (L : SlLaysF.n6 P ρ) {o : FuncId} {cf : Str → Str → Int} {l : List Str} (H : SortOK P o cf l) {w : World} {base : Nat} {e : TypeId} {v : Value} (hr : w.ownsRow base e 1 v l.length (l.map txtV)) (hl : l.length < 4611686018427387904) :
    Calls P (ρ.f 6) #[v, .func (.func o) #[] #[]] w fun x w' => x = .returned (.tuple #[]) ∧ w'.ownsRow base e 1 v l.length ((sortC cf l).map txtV) ∧ Below base w w' := by
  have hr0 := hr
  obtain ⟨hxl, ⟨rfl, hn⟩ | ⟨gb, cap, cur, rfl, hge, hc, hnc, hm, hcs, htk⟩⟩ := hr
  · have : l = [] := List.eq_nil_of_length_eq_zero hn
    subst this
    refine (AnyF.slices_SortFunc_none (P := P) (ρ := ρ) { L with } none 0 _ w).mono ?_
    rintro x w' ⟨rfl, rfl⟩
    exact ⟨rfl, by simpa [sortC] using hr0, .refl _ _⟩
  · cases l with
    | nil =>
      refine (AnyF.slices_SortFunc_none (P := P) (ρ := ρ) { L with } _ cap _ w).mono ?_
      rintro x w' ⟨rfl, rfl⟩
      exact ⟨rfl, by simpa [sortC] using hr0, .refl _ _⟩
    | cons s0 l0 =>
      generalize hks : s0 :: l0 = ks at *
      have hin : s0 ∈ ks := by rw [← hks]; exact List.mem_cons_self
      letI : Inhabited (Of ks) := ⟨⟨s0, hin⟩⟩
      have hmap : (ks.attachWith (· ∈ ks) fun _ h => h).map (·.1) = ks := by simp
      generalize hd : ks.attachWith (· ∈ ks) (fun _ h => h) = d at hmap
      have hdl : d.length = ks.length := by have := congrArg List.length hmap; simpa using this
      have hH : Holds (encO ks) w gb 0 d.toArray := by
        intro j hj
        have hj' : j < d.length := by simpa using hj
        refine ⟨?_, by simp [World.frozen?, hc]⟩
        have h1 := congrArg (·[j]?) htk
        simp only [Nat.mul_one] at h1
        rw [List.getElem?_take_of_lt (by omega), Array.getElem?_toList, List.getElem?_map, ← hmap, List.getElem?_map, List.getElem?_eq_getElem hj'] at h1
        simp only [Option.map_some] at h1
        simp only [World.cell?, hc, Nat.zero_add, h1]
        simp [encO, hj', getElem!_pos]
      have hgl : gb < w.heap.size := (Array.getElem?_eq_some_iff.1 hc).1
      have := Any.slices_SortFunc_total (L := L) (encO ks) (fun x => rfl) (fun a b => cf a.1 b.1) H.swo o #[] gb 0 cap d.toArray w (enters_ok H.callee) (cmp_lays H gb 0 d.toArray.size w) hH hgl (by simpa [hdl] using hl) (fun x y h1 h2 => by
        simp only [ltOf, decide_eq_false_iff_not] at h1 h2
        exact Subtype.ext (H.total x.1 x.2 y.1 y.2 h1 h2))
      simp only [List.size_toArray, hdl] at this
      refine Calls.mono this ?_
      rintro x w' ⟨rfl, n, os, rfl⟩
      obtain ⟨q1, q2, q3⟩ := heap_sortWorld (enc := encO ks) (n := n) (d := (d.mergeSort fun x y => !(ltOf fun (a b : Of ks) => cf a.1 b.1) y x).toArray) (os := os) hc
      have hsl : (d.mergeSort fun x y => !(ltOf fun (a b : Of ks) => cf a.1 b.1) y x).length = ks.length := by rw [List.length_mergeSort, hdl]
      have hs := sortC_map (cf := cf) ks d
      rw [hmap] at hs
      refine ⟨rfl, ⟨by simp [sortC, List.length_mergeSort], .inr ⟨gb, cap, _, rfl, hge, q1, hnc, hm, by simp [Sort.putCells, hcs], ?_⟩⟩, ⟨rfl, rfl, rfl, q3, fun k hk => q2 k (by omega) (by omega)⟩⟩
      rw [Nat.mul_one, ← hsl, take_put (by omega), ← hs, List.map_map]
      rfl
end Go.DS

/-
  A map's keys, as the kit's iterators want them.
-/
namespace Go.DS
open Go Go.Proofs Go.Shelf Go.RowKit Go.Sort Go.Maps Go.ChangeMaps Go.MapKept
set_option linter.unusedVariables false
set_option linter.unusedSimpArgs false
def strV : Value → Str
  | .string b => b.data.toList
  | _ => []
theorem keys_vals {g : Gh} {es : List (DV × DV)} {ents : List MapEntry} {ks : List Str} (hE : RelE g es ents) (hK : es.map (·.1) = ks.map txt) : ents.map (·.key) = ks.map txtV := by
  have hl : es.length = ks.length := by have := congrArg List.length hK; simpa using this
  apply List.ext_getElem?
  intro i
  rw [List.getElem?_map, List.getElem?_map]
  by_cases hi : i < ks.length
  · have hi1 : i < es.length := by omega
    have hi2 : i < ents.length := by have := hE.len; omega
    rw [List.getElem?_eq_getElem hi, List.getElem?_eq_getElem hi2]
    have := (hE.at_ i _ _ (List.getElem?_eq_getElem hi1) (List.getElem?_eq_getElem hi2)).1
    have hk := congrArg (·[i]?) hK
    simp only [List.getElem?_map, List.getElem?_eq_getElem hi, List.getElem?_eq_getElem hi1, Option.map_some, Option.some.injEq] at hk
    rw [hk] at this
    rw [Option.map_some, Option.map_some, sc_inv this]
  · rw [List.getElem?_eq_none (by have := hE.len; omega), List.getElem?_eq_none (by omega)]; rfl
theorem txtV_inj {a b : Str} (h : txtV a = txtV b) : a = b := by
  have := congrArg strV h
  exact this
theorem keys_own {P : Program} {g : Gh} {w : World} {b : Nat} {es : List (DV × DV)} {ents : Array MapEntry} {clk : Nat} {ks : List Str} {kt : TypeId} (hk : P.underlying kt = some .string) (hE : RelE g es ents.toList) (hK : KeysOK es ks)
    (hst : DS.Stamped ents.toList clk) (hb : w.heap[b]? = some (.map ents clk)) :
    ∃ D0 : DataW Unit, w.ownsMap P kt (fun _ => some (.lit (.bool true), [])) b ks.length D0 ∧ (strKeys D0).Perm ks ∧ Maps.size D0 = ks.length := by
  have hv := keys_vals hE hK.keys
  have hl : ents.size = ks.length := by have := congrArg List.length hv; simpa using this
  have hx : ∀ x ∈ ents.toList, ∃ s ∈ ks, x.key = txtV s := fun x hx => by
    have : x.key ∈ ks.map txtV := by rw [← hv]; exact List.mem_map_of_mem (f := (·.key)) hx
    obtain ⟨s, hs, he⟩ := List.mem_map.1 this
    exact ⟨s, hs, he.symm⟩
  have hrd : ∀ x ∈ ents.toList, Go.WideElems.rd P kt (fun _ => some ((.lit (.bool true) : DataW Unit), [])) x = some (.string (strV x.key), .lit (.bool true)) := fun x hx' => by
    obtain ⟨s, hs, he⟩ := hx x hx'
    have hsz : (mkB s).size ≤ maxLen := by
      have := hK.lens s hs
      show s.toArray.size ≤ _
      simp only [List.size_toArray, maxLen]; omega
    unfold Go.WideElems.rd
    have : keyOf P kt (txtV s) = some (.string s) := by
      simp only [keyOf, hk, mapKey, txtV, hsz, if_true]
      rfl
    rw [he, this]
    rfl
  have hm : (ents.toList.map (Go.WideElems.rg P kt fun _ => some ((.lit (.bool true) : DataW Unit), []))).map (fun p => strOf p.1) = ks := by
    rw [List.map_map]
    have : ents.toList.map ((fun p : Lit × DataW Unit => strOf p.1) ∘ Go.WideElems.rg P kt fun _ => some ((.lit (.bool true) : DataW Unit), [])) = (ents.toList.map (·.key)).map strV := by
      rw [List.map_map]
      refine List.map_congr_left fun x hx' => ?_
      simp only [Function.comp, Go.WideElems.rg, hrd x hx', Option.getD_some, strOf]
    rw [this, hv, List.map_map]
    exact (List.map_congr_left fun s _ => rfl).trans (List.map_id ks)
  refine ⟨_, ⟨ents, clk, hb, ⟨?_, ⟨hst.1, hst.2, ?_⟩, fun x hx' => ⟨_, hrd x hx'⟩⟩, by omega, rfl⟩, ?_, ?_⟩
  · have := hK.len; simp only [maxLen]; omega
  · rw [hv]; exact List.Pairwise.map _ (fun a b h e => h (txtV_inj e)) hK.nodup
  · simp only [strKeys]
    rw [← hm]
    exact (Go.WideShapes.sorted_perm _).map _
  · simp only [Maps.size]
    rw [(Go.WideShapes.sorted_perm _).length_eq, List.length_map, ← hl]
    rfl
end Go.DS

/-
  The kit's contracts of slices.SortFunc, slices.Collect, maps.Keys, maps.Clone, over this program; slices.SortedFunc of maps.Keys.
-/
namespace Go.DS
open Go Go.Proofs Go.Shelf Go.RowKit Go.Sort Go.Maps Go.ChangeMaps Go.MapKept
set_option linter.unusedVariables false
set_option linter.unusedSimpArgs false
def clays_ren : Ren := ⟨fun | 5 => 63 | 7 => 64 | n => n,
  fun | 23 => 100 | 25 => 9 | 3 => 111 | 4 => 4 | 20 => 20 | n => n,
  fun n => n⟩
theorem clays : SlLaysW.n5 Tryz.prog clays_ren where
  mixed := by kernel_rfl
  f5 := ⟨"maps.Clone[map[string]syndic/dir.entry,string,syndic/dir.entry]", of_decide_eq_true (by kernel_rfl), Tryz.func63.trans (congrArg some (by kernel_rfl))⟩
  f7 := by kernel_rfl
  t4 := Tryz.underlying4
  a4 := Tryz.isAgg4
  z4 := Tryz.sizeOf4
  v4 := Tryz.zeroValue4
  t20 := Tryz.underlying20
  a20 := Tryz.isAgg20
  z20 := Tryz.sizeOf20
  v20 := Tryz.zeroValue20
  t23 := Tryz.underlying100
  a23 := Tryz.isAgg100
  z23 := Tryz.sizeOf100
  v23 := Tryz.zeroValue100
def colays_ren : Ren := ⟨fun | 8 => 99 | 11 => 125 | n => n,
  fun | 26 => 9 | 28 => 118 | 24 => 32 | 0 => 0 | 33 => 108 | 4 => 4 | n => n,
  fun n => n⟩
theorem colays : SlLaysZ.n8 Tryz.prog colays_ren where
  mixed := by kernel_rfl
  f8 := ⟨"slices.Collect[string]", of_decide_eq_true (by kernel_rfl), Tryz.func99.trans (congrArg some (by kernel_rfl))⟩
  f11 := ⟨"slices.AppendSeq[[]string,string]", of_decide_eq_true (by kernel_rfl), Tryz.func125.trans (congrArg some (by kernel_rfl))⟩
  t0 := Tryz.underlying0
  a0 := Tryz.isAgg0
  z0 := Tryz.sizeOf0
  v0 := Tryz.zeroValue0
  t24 := Tryz.underlying32
  a24 := Tryz.isAgg32
  z24 := Tryz.sizeOf32
  v24 := Tryz.zeroValue32
  t26 := Tryz.underlying9
  a26 := Tryz.isAgg9
  z26 := Tryz.sizeOf9
  v26 := Tryz.zeroValue9
  t28 := Tryz.underlying118
  a28 := Tryz.isAgg118
  z28 := Tryz.sizeOf118
  v28 := Tryz.zeroValue118
  i26 := by kernel_rfl
def klays_ren : Ren := ⟨fun | 10 => 101 | n => n,
  fun | 33 => 108 | 23 => 100 | 0 => 0 | 4 => 4 | 26 => 9 | 3 => 111 | n => n,
  fun n => n⟩
theorem klays : SlLaysZ.n10 Tryz.prog klays_ren where
  mixed := by kernel_rfl
  f10 := ⟨"maps.Keys[map[string]syndic/dir.entry,string,syndic/dir.entry]$1", of_decide_eq_true (by kernel_rfl), Tryz.func101.trans (congrArg some (by kernel_rfl))⟩
  t0 := Tryz.underlying0
  a0 := Tryz.isAgg0
  z0 := Tryz.sizeOf0
  v0 := Tryz.zeroValue0
  t4 := Tryz.underlying4
  a4 := Tryz.isAgg4
  z4 := Tryz.sizeOf4
  v4 := Tryz.zeroValue4
  t23 := Tryz.underlying100
  a23 := Tryz.isAgg100
  z23 := Tryz.sizeOf100
  v23 := Tryz.zeroValue100
  t26 := Tryz.underlying9
  a26 := Tryz.isAgg9
  z26 := Tryz.sizeOf9
  v26 := Tryz.zeroValue9
  t33 := Tryz.underlying108
  a33 := Tryz.isAgg108
  z33 := Tryz.sizeOf108
  v33 := Tryz.zeroValue108
def slays_ren : Ren := ⟨fun | 6 => 100 | 15 => 104 | 14 => 126 | 28 => 136 | 29 => 137 | 20 => 155 | 21 => 156 | 22 => 157 | 23 => 158 | 24 => 159 | 25 => 160 | 26 => 161 | 27 => 162 | 46 => 179 | 47 => 164 | 48 => 165 | 49 => 180 | 50 => 181 | 57 => 192 | n => n,
  fun | 22 => 32 | 24 => 9 | 25 => 120 | 3 => 3 | 39 => 149 | 0 => 0 | 53 => 192 | 55 => 194 | 4 => 4 | 46 => 185 | 45 => 184 | 50 => 189 | 5 => 5 | 9 => 9 | 66 => 211 | 70 => 215 | 76 => 226 | 77 => 227 | n => n,
  fun n => n⟩
theorem slays : SlLaysF.n6 Tryz.prog slays_ren where
  mixed := by kernel_rfl
  f6 := ⟨"slices.SortFunc[[]string,string]", of_decide_eq_true (by kernel_rfl), Tryz.func100.trans (congrArg some (by kernel_rfl))⟩
  f14 := ⟨"slices.pdqsortCmpFunc[string]", of_decide_eq_true (by kernel_rfl), Tryz.func126.trans (congrArg some (by kernel_rfl))⟩
  f15 := by kernel_rfl
  f20 := ⟨"slices.insertionSortCmpFunc[string]", of_decide_eq_true (by kernel_rfl), Tryz.func155.trans (congrArg some (by kernel_rfl))⟩
  f21 := ⟨"slices.heapSortCmpFunc[string]", of_decide_eq_true (by kernel_rfl), Tryz.func156.trans (congrArg some (by kernel_rfl))⟩
  f22 := ⟨"slices.breakPatternsCmpFunc[string]", of_decide_eq_true (by kernel_rfl), Tryz.func157.trans (congrArg some (by kernel_rfl))⟩
  f23 := ⟨"slices.choosePivotCmpFunc[string]", of_decide_eq_true (by kernel_rfl), Tryz.func158.trans (congrArg some (by kernel_rfl))⟩
  f24 := ⟨"slices.reverseRangeCmpFunc[string]", of_decide_eq_true (by kernel_rfl), Tryz.func159.trans (congrArg some (by kernel_rfl))⟩
  f25 := ⟨"slices.partialInsertionSortCmpFunc[string]", of_decide_eq_true (by kernel_rfl), Tryz.func160.trans (congrArg some (by kernel_rfl))⟩
  f26 := ⟨"slices.partitionEqualCmpFunc[string]", of_decide_eq_true (by kernel_rfl), Tryz.func161.trans (congrArg some (by kernel_rfl))⟩
  f27 := ⟨"slices.partitionCmpFunc[string]", of_decide_eq_true (by kernel_rfl), Tryz.func162.trans (congrArg some (by kernel_rfl))⟩
  f28 := by kernel_rfl
  f29 := by kernel_rfl
  f46 := ⟨"slices.siftDownCmpFunc[string]", of_decide_eq_true (by kernel_rfl), Tryz.func179.trans (congrArg some (by kernel_rfl))⟩
  f47 := by kernel_rfl
  f48 := by kernel_rfl
  f49 := ⟨"slices.medianAdjacentCmpFunc[string]", of_decide_eq_true (by kernel_rfl), Tryz.func180.trans (congrArg some (by kernel_rfl))⟩
  f50 := ⟨"slices.medianCmpFunc[string]", of_decide_eq_true (by kernel_rfl), Tryz.func181.trans (congrArg some (by kernel_rfl))⟩
  f57 := ⟨"slices.order2CmpFunc[string]", of_decide_eq_true (by kernel_rfl), Tryz.func192.trans (congrArg some (by kernel_rfl))⟩
  t0 := Tryz.underlying0
  a0 := Tryz.isAgg0
  z0 := Tryz.sizeOf0
  v0 := Tryz.zeroValue0
  t3 := Tryz.underlying3
  a3 := Tryz.isAgg3
  z3 := Tryz.sizeOf3
  v3 := Tryz.zeroValue3
  t4 := Tryz.underlying4
  a4 := Tryz.isAgg4
  z4 := Tryz.sizeOf4
  v4 := Tryz.zeroValue4
  t5 := Tryz.underlying5
  a5 := Tryz.isAgg5
  z5 := Tryz.sizeOf5
  v5 := Tryz.zeroValue5
  t9 := Tryz.underlying9
  a9 := Tryz.isAgg9
  z9 := Tryz.sizeOf9
  v9 := Tryz.zeroValue9
  t22 := Tryz.underlying32
  a22 := Tryz.isAgg32
  z22 := Tryz.sizeOf32
  v22 := Tryz.zeroValue32
  a24 := Tryz.isAgg9
  z24 := Tryz.sizeOf9
  t25 := Tryz.underlying120
  a25 := Tryz.isAgg120
  z25 := Tryz.sizeOf120
  v25 := Tryz.zeroValue120
  t39 := Tryz.underlying149
  a39 := Tryz.isAgg149
  z39 := Tryz.sizeOf149
  v39 := Tryz.zeroValue149
  t45 := Tryz.underlying184
  a45 := Tryz.isAgg184
  z45 := Tryz.sizeOf184
  v45 := Tryz.zeroValue184
  t46 := Tryz.underlying185
  a46 := Tryz.isAgg185
  z46 := Tryz.sizeOf185
  v46 := Tryz.zeroValue185
  t50 := Tryz.underlying189
  a50 := Tryz.isAgg189
  z50 := Tryz.sizeOf189
  v50 := Tryz.zeroValue189
  t53 := Tryz.underlying192
  a53 := Tryz.isAgg192
  z53 := Tryz.sizeOf192
  v53 := Tryz.zeroValue192
  t55 := Tryz.underlying194
  a55 := Tryz.isAgg194
  z55 := Tryz.sizeOf194
  v55 := Tryz.zeroValue194
  t66 := Tryz.underlying211
  a66 := Tryz.isAgg211
  z66 := Tryz.sizeOf211
  v66 := Tryz.zeroValue211
  t70 := Tryz.underlying215
  a70 := Tryz.isAgg215
  z70 := Tryz.sizeOf215
  v70 := Tryz.zeroValue215
  t76 := Tryz.underlying226
  a76 := Tryz.isAgg226
  z76 := Tryz.sizeOf226
  v76 := Tryz.zeroValue226
  t77 := Tryz.underlying227
  a77 := Tryz.isAgg227
  z77 := Tryz.sizeOf227
  v77 := Tryz.zeroValue227

theorem clone_ok {args : List DV} {h : DHeap} {r : DV} {h' : DHeap} (hx : cloneF args h = some (r, h')) : CallOK Tryz.prog 63 args h r h' := clone_ok_of clays hx
theorem relL_ts {g : Gh} (l : List Str) : RelL g (ts l).flatten (l.map txtV) := by
  have : (ts l).flatten = l.map txt := by
    induction l with
    | nil => rfl
    | cons s l ih => simp only [ts, List.map_cons, List.flatten_cons] at ih ⊢; rw [ih]; rfl
  rw [this]
  refine ⟨by simp, fun k d v h1 h2 => ?_⟩
  rw [List.getElem?_map] at h1 h2
  cases h3 : l[k]? with
  | none => rw [h3] at h1; cases h1
  | some s => rw [h3] at h1 h2; cases h1; cases h2; exact .sc _
theorem cell_ts (l : List Str) : (ts l).flatten.all DV.cell = true := by
  simp only [List.all_eq_true, List.mem_flatten]
  rintro d ⟨r, hr, hd⟩
  obtain ⟨s, _, rfl⟩ := List.mem_map.1 hr
  rw [List.mem_singleton.1 hd]; rfl
theorem one_ts (l : List Str) : ∀ r ∈ ts l, r.length = 1 := by
  intro r hr
  obtain ⟨s, _, rfl⟩ := List.mem_map.1 hr
  rfl
theorem fn_inv0 {g : Gh} {f : Fn} {d : DV} {v : Value} (h : RelV g (.fn f [] [d]) v) : ∃ u, v = .func f #[] #[u] ∧ RelV g d u := by
  obtain ⟨gs, ds, rfl, h1, h2⟩ := fn_inv h
  have := h1.nil_inv
  subst this
  obtain ⟨u, us, rfl, hu, h3⟩ := h2.cons_inv
  have := h3.nil_inv
  subst this
  exact ⟨u, rfl, hu⟩
theorem fn_inv00 {g : Gh} {f : Fn} {v : Value} (h : RelV g (.fn f [] []) v) : v = .func f #[] #[] := by
  obtain ⟨gs, ds, rfl, h1, h2⟩ := fn_inv h
  have := h1.nil_inv
  subst this
  have := h2.nil_inv
  subst this
  rfl
/-- A cell of an object that holds a map. -/
theorem map_box {g : Gh} {h : DHeap} {w : World} (hW : WInv g h w) {i j : Nat} (hi : h[i]? = some (.cells [.mp j])) : w.cell? ⟨g.η i, 0, none⟩ = some (.map (some (g.η j))) := by
  obtain ⟨us, et, a1, a2, a3, a4, a5⟩ := hW.obj i _ hi
  obtain ⟨u, us', h1, hu, h2⟩ := a4.cons_inv
  obtain ⟨_, rfl⟩ := mp_inv hu
  have : us[0]? = some (.map (some (g.η j))) := by rw [← Array.getElem?_toList, h1]; rfl
  simp [World.cell?, a1, this]
set_option maxRecDepth 100000 in
set_option maxHeartbeats 2000000 in
theorem keysF_ok {args : List DV} {h : DHeap} {r : DV} {h' : DHeap} (hx : keysF Tryz.prog 101 70 ordP args h = some (r, h')) : CallOK Tryz.prog 68 args h r h' := by
  unfold keysF at hx
  split at hx
  · rename_i h0 a i b
    split at hx
    · rename_i j hi
      split at hx
      · rename_i es hj
        split at hx
        · rename_i hc
          obtain ⟨rfl, rfl, hK, hS⟩ := hc
          cases hx
          generalize es.map (fun e => keyS e.1) = ks at *
          refine callOK_row (one_ts _) (cell_ts _) fun g w vs hW hR => ?_
          obtain ⟨u, v, rfl, hu, hv⟩ := rel2 hR
          obtain ⟨p, rfl, hp⟩ := fn_inv0 hu
          obtain rfl := fn_inv00 hv
          obtain ⟨hi0, rfl⟩ := ptr_inv hp
          have hbox := map_box hW hi
          obtain ⟨ents, clk, a1, a2, a3, a4, a5⟩ := hW.obj j _ hj
          obtain ⟨D0, o1, o2, o3⟩ := keys_own (P := Tryz.prog) (kt := 9) klays.t26 a4 hK a5 a1
          have hseq := AnyZ.keys_gives (H := Unit) klays Fence.wide 7 trivial rfl (by omega) (g.η i) (g.η j) ks.length D0 w (lt_of_cell hbox) hbox o1
          have hcol := callsIn_wide.1 (AnyZ.collect_in colays Fence.wide 9 trivial trivial rfl (by omega) 101 #[.pointer (some ⟨g.η i, 0, none⟩)] trivial (klays.f10.enters rfl)
            (fun ss => ss.Perm (strKeys D0)) (Maps.size D0) (by have := hK.len; rw [o3]; simp only [maxLen]; omega) (by have := hK.len; rw [o3]; omega) w hseq)
          have hlen : (ts (sortC ordP ks)).length = ks.length := by simp [ts_len, sortC, List.length_mergeSort]
          rw [hlen]
          go_enter Tryz.func68, Tryz.ntmps68
          go_wp2_with (go_at_call 99; refine hcol.mono ?_; rintro e W ⟨v, ss, rfl, hperm, hrow, _, hb⟩)
          have hpk := hperm.trans o2
          have hSs : SortOK Tryz.prog 70 ordP ss := ⟨hS.callee, fun a ha b hb => hS.call a (hpk.mem_iff.1 ha) b (hpk.mem_iff.1 hb), fun a ha => hS.irrefl a (hpk.mem_iff.1 ha), fun a ha b hb c hc => hS.trans a (hpk.mem_iff.1 ha) b (hpk.mem_iff.1 hb) c (hpk.mem_iff.1 hc),
            fun a ha b hb c hc => hS.ntrans a (hpk.mem_iff.1 ha) b (hpk.mem_iff.1 hb) c (hpk.mem_iff.1 hc), fun a ha b hb => hS.total a (hpk.mem_iff.1 ha) b (hpk.mem_iff.1 hb)⟩
          have hsort := sort_row slays (o := 70) (cf := ordP) (l := ss) hSs hrow (by have := hK.len; have := hpk.length_eq; omega)
          go_wp2_with (go_at_call 100; refine hsort.mono ?_; rintro e W' ⟨rfl, hrow', hb'⟩)
          go_ret
          rw [sortC_perm hS hpk, hpk.length_eq] at hrow'
          exact ⟨v, _, _, rfl, hb.trans hb', hrow', relL_ts _⟩
        · cases hx
      · cases hx
    · cases hx
  · cases hx
end Go.DS

/-
  (*dir.Dir).names: a loop over a map, told by a proof.
-/
namespace Go.DS
open Go Go.Proofs Go.Shelf Go.RowKit Go.Sort Go.Maps Go.ChangeMaps Go.MapKept
set_option linter.unusedVariables false
set_option linter.unusedSimpArgs false
theorem infoStr : (Tryz.prog.info? 9).map (fun i => (i.zero, i.size, i.bytes)) = some (some (.string ⟨#[]⟩), 1, 16) := by kernel_rfl
theorem below_of_grown {base : Nat} {w w' : World} {row : Option Nat} (h : w.grownBy w' row) (hb : base ≤ w.heap.size) (hr : ∀ k, row = some k → base ≤ k) : Below base w w' :=
  ⟨h.os, h.tape, h.output, h.size, fun k hk => h.block k (by omega) (fun e => by have := hr k e.symm; omega)⟩
theorem grown_of_below' {w w' : World} (h : Below w.heap.size w w') : w.grownBy w' none := ⟨h.os, h.tape, h.output, h.size, fun k hk _ => h.block k hk⟩
theorem has_keys {H : Type} {D : DataW H} {x : List UInt8} (h : has D (.string x) = true) : x ∈ strKeys D := by
  cases D <;> try (cases h; done)
  rename_i es
  rw [Maps.has_eq, List.any_eq_true] at h
  obtain ⟨p, hp, hs⟩ := h
  refine List.mem_map.2 ⟨p, hp, ?_⟩
  cases hl : p.1 <;> rw [hl] at hs <;> simp [Lit.sameKey] at hs
  subst hs
  rfl
/-- A function whose answer is known, in any world. -/
theorem call_txt {P : Program} {k : FuncId} {a b : Str} (h : CallOK P k [txt a] [] (txt b) []) (w : World) : Calls P k #[.string (mkB a)] w fun e w' => e = .returned (.string (mkB b)) ∧ w.grownBy w' none := by
  refine (startM h w (.cons (.sc _) (.nil _))).mono ?_
  rintro e w' ⟨rfl, hb, _⟩
  exact ⟨rfl, grown_of_below' hb⟩
def picks (p : Str) (l : List Str) : List Str := (l.filter fun k => decide (parentP k = p)).map lastP
theorem picks_snoc (p : Str) (l : List Str) (x : Str) : picks p (l ++ [x]) = if parentP x = p then picks p l ++ [lastP x] else picks p l := by
  unfold picks
  by_cases h : parentP x = p
  · simp [h, List.filter_append]
  · simp [h, List.filter_append]
theorem picks_len (p : Str) (l : List Str) : (picks p l).length ≤ l.length := by
  unfold picks; rw [List.length_map]; exact List.length_filter_le _ _
theorem SortOK.perm {P : Program} {o : FuncId} {cf : Str → Str → Int} {ks l : List Str} (hS : SortOK P o cf ks) (hpk : l.Perm ks) : SortOK P o cf l :=
  ⟨hS.callee, fun a ha b hb => hS.call a (hpk.mem_iff.1 ha) b (hpk.mem_iff.1 hb), fun a ha => hS.irrefl a (hpk.mem_iff.1 ha), fun a ha b hb c hc => hS.trans a (hpk.mem_iff.1 ha) b (hpk.mem_iff.1 hb) c (hpk.mem_iff.1 hc),
    fun a ha b hb c hc => hS.ntrans a (hpk.mem_iff.1 ha) b (hpk.mem_iff.1 hb) c (hpk.mem_iff.1 hc), fun a ha b hb => hS.total a (hpk.mem_iff.1 ha) b (hpk.mem_iff.1 hb)⟩
set_option maxRecDepth 1000000 in
set_option maxHeartbeats 3200000 in
theorem names_calls {w : World} {pb mb : Nat} {p : ByteArray} {ks : List Str} {D0 : DataW Unit} (hbox : w.cell? ⟨pb, 0, none⟩ = some (.map (some mb)))
    (o1 : w.ownsMap Tryz.prog 9 (fun _ => some (.lit (.bool true), [])) mb ks.length D0) (o2 : (strKeys D0).Perm ks) (hlen : ks.length ≤ 1048576) (o3 : Maps.size D0 = ks.length)
    (hcall : ∀ k ∈ ks, CallOK Tryz.prog 67 [txt k] [] (txt (parentP k)) [] ∧ CallOK Tryz.prog 148 [txt k] [] (txt (lastP k)) [])
    (hS : SortOK Tryz.prog 149 Lib.compareBytes (picks p.data.toList ks)) :
    Calls Tryz.prog 117 #[.pointer (some ⟨pb, 0, none⟩), .string p] w fun e w' => ∃ v, e = .returned v ∧ Below w.heap.size w w' ∧
      w'.ownsRow w.heap.size 9 1 v (picks p.data.toList ks).length ((sortC Lib.compareBytes (picks p.data.toList ks)).map txtV) := by
  obtain ⟨i0, hi, hz0, hz1, hz2⟩ := info_parts infoStr
  go_enter Tryz.func117, Tryz.ntmps117
  go_wp2_with (first
    | (at_range; refine wpList_range_own _ rfl _ 100 rfl 9 111 (string_keyed klays.t26) klays.t23 _ mb ks.length _ rfl o1 ?_; intro w0 hrg0 hg0 hs0)
    | go_in)
  go_frame
  go_loopw [5, 6] (fun v _ wr => ∃ (left : Lit → Bool) (cnt : Nat) (ss : List Str), wr.ranges Tryz.prog 9 (fun _ => some (.lit (.bool true), [])) mb w.heap.size ks.length D0 left cnt ∧ ss.length + cnt ≤ ks.length ∧ Hid (Collected D0 left ss) ∧
      wr.ownsRow w.heap.size 9 1 v (picks p.data.toList ss).length ((picks p.data.toList ss).map txtV) ∧ Hid (Below w.heap.size w wr))
    (fun _ _ wr => wr.rangeLeft mb w.heap.size)
  case atStart =>
    exact ⟨_, _, [], hrg0, by simp [o3], Collected.start D0, World.ownsRow_nil _ _ _ _, below_of_grown hg0 (Nat.le_refl _) (fun k e => by cases e)⟩
  case round =>
    obtain ⟨left, cnt, ss, hrg, hcs, HC, hrow, HB⟩ := hrel
    go_wp2_with (first
      | (at_next; refine wpList_next_ranges _ rfl _ rfl 9 (string_keyed klays.t26) _ encStr id (fun key kl hk => by obtain ⟨x, hx, _⟩ := Maps.keyOf_str klays.t26 hk; exact ⟨x, hx⟩) (fun v _ _ => ⟨v, rfl⟩) mb w.heap.size ks.length _ _ _ rfl hrg ?_ ?_)
      | go_in)
    · intro hc0 hl0
      have hpk : ss.Perm ks := (HC.out.perm hrg.owns (string_keyed klays.t26) klays.t26 hl0).trans o2
      have hperm : (picks p.data.toList ss).Perm (picks p.data.toList ks) := (hpk.filter _).map _
      have hsort := sort_row slays (hS.perm hperm) hrow (by have := picks_len p.data.toList ss; omega)
      clear hrg
      go_wp2_with (go_at_call 100; refine hsort.mono ?_; rintro e w' ⟨rfl, hrow', hb'⟩)
      go_ret
      rw [sortC_perm hS hperm, hperm.length_eq] at hrow'
      exact ⟨_, rfl, HB.out.trans hb', hrow'⟩
    · intro x c kl y1 y2 w1 cnt1 hkey hlk hv1 hv2 hat hrg1 hlt hg1 hs1 hen
      obtain ⟨x', ex, rfl, _⟩ := Maps.keyOf_str klays.t26 hkey
      obtain rfl : x = x' := encStr_inj ex
      have hxk : x ∈ ks := o2.mem_iff.1 (has_keys (has_true_of_atKey hat))
      have hm0 : wr.rangeLeft mb w.heap.size = cnt := hrg.left_eq
      have hrow1 := hrow.kept hg1 (by
        cases hob : u5.ownBlock with
        | none => exact Or.inl rfl
        | some g => exact Or.inr (fun e => row_ne_iter hrow hrg (by rw [hob]; exact e.symm)))
      have HB1 : Hid (Below w.heap.size w w1) := HB.out.trans (below_of_grown hg1 HB.out.size (fun k e => by cases e; exact Nat.le_refl _))
      have hcall1 := call_txt (hcall x hxk).1 w1
      clear HB hrow hrg
      go_wp2_with (go_at_call 67; refine hcall1.mono ?_; rintro e w2 ⟨rfl, hg2⟩)
      · rename_i hc K1 ha1
        have hp : parentP x = p.data.toList := by
          rw [toList_beq, decide_eq_true_eq] at hc
          rw [← hc]; rfl
        have hg3 := hg2
        have hrow2 := hrow1.kept hg2 (by cases u5.ownBlock <;> simp)
        have hrg2 := hrg1.kept hg2 (by simp) (by simp)
        have HB2 : Hid (Below w.heap.size w w2) := HB1.out.trans (below_of_grown hg2 HB1.out.size (fun k e => by cases e))
        clear hrow1 hrg1 HB1 hcall1
        have hcall2 := call_txt (hcall x hxk).2 w2
        go_wp2_with (first
          | (go_at_call 148; refine hcall2.mono ?_; rintro e w3 ⟨rfl, hg3⟩
             have hrow3 := hrow2.kept hg3 (by cases u5.ownBlock <;> simp)
             have hrg3 := hrg2.kept hg3 (by simp) (by simp)
             have HB3 : Hid (Below w.heap.size w w3) := HB2.out.trans (below_of_grown hg3 HB2.out.size (fun k e => by cases e))
             clear hrow2 hrg2 HB2 hcall2)
          | (at_builtin; refine wpList_append_own_at _ rfl _ _ 32 rfl w.heap.size 9 i0 (.string ⟨#[]⟩) 1 16 slays.t22 hi hz0 hz1 hz2 rfl (by decide) _ _ _ rfl (hrow3.alloc _) ⟨w3.heap.size, 0, none⟩ 1 1 [.string (mkB (lastP x))] rfl rfl ?c1 ?c2 ?c3 ?c4 ?c5 ?_)
          | go_in)
        case c1 =>
          intro j u hj
          match j, hj with
          | 0, hj => simp at hj; subst hj; simp [Addr.add]
        case c2 => intro u hu; simp at hu; subst hu; rfl
        case c3 => have := picks_len p.data.toList ss; unfold maxLen; omega
        case c4 => have := picks_len p.data.toList ss; omega
        case c5 => have := HB3.out.size; simp; omega
        · intro v' w4 hown' hgrow _ hloc
          have hmb : mb < w.heap.size := o1.lt
          have hown3 := hrow3.alloc (.cells #[.string (mkB (lastP x))] 9)
          have hrg4 := (hrg3.alloc (.cells #[.string (mkB (lastP x))] 9)).kept hgrow (fun e => by have := (hown3.lt mb e.symm).1; omega) (row_ne_iter hown3 (hrg3.alloc _))
          have HB4 : Hid (Below w.heap.size w w4) := (HB3.out.trans (below_of_grown (World.grownBy_alloc w3 (.cells #[.string (mkB (lastP x))] 9) none) HB3.out.size (fun k e => by cases e))).trans
            (below_of_grown hgrow (by have := HB3.out.size; simp; omega) (fun k e => (hown3.lt k e).1))
          have hrow4 : w4.ownsRow w.heap.size 9 1 v' (picks p.data.toList (ss ++ [x])).length ((picks p.data.toList (ss ++ [x])).map txtV) := by
            rw [picks_snoc, if_pos hp]; simpa using hown'
          clear hown' hgrow hloc HB3 hrow3 hrg3 hown3
          go_wp2
          go_roundw
          case rel => exact ⟨_, cnt1, ss ++ [x], hrg4, by simp; omega, HC.out.step hlk hat, hrow4, HB4⟩
          case measure => rw [hrg4.left_eq, hm0]; exact hlt
      · rename_i hc
        have hp : ¬ parentP x = p.data.toList := by
          rw [toList_beq, decide_eq_false_iff_not] at hc
          intro e
          refine hc ?_
          rw [e]
          rfl
        have hrow2 := hrow1.kept hg2 (by cases u5.ownBlock <;> simp)
        have hrg2 := hrg1.kept hg2 (by simp) (by simp)
        have HB2 : Hid (Below w.heap.size w w2) := HB1.out.trans (below_of_grown hg2 HB1.out.size (fun k e => by cases e))
        exact ⟨⟨_, cnt1, ss ++ [x], hrg2, by simp; omega, HC.out.step hlk hat, by rw [picks_snoc, if_neg hp]; exact hrow2, HB2⟩, by rw [hrg2.left_eq, hm0]; exact hlt⟩
theorem namesF_ok {args : List DV} {h : DHeap} {r : DV} {h' : DHeap} (hx : namesF Tryz.prog 67 148 149 parentP lastP Lib.compareBytes args h = some (r, h')) : CallOK Tryz.prog 117 args h r h' := by
  unfold namesF at hx
  split at hx
  · rename_i h0 i p
    split at hx
    · rename_i j hi
      split at hx
      · rename_i es hj
        split at hx
        · rename_i hc
          obtain ⟨hK, hcall, hS⟩ := hc
          cases hx
          generalize es.map (fun e => keyS e.1) = ks at *
          refine callOK_row (one_ts _) (cell_ts _) fun g w vs hW hR => ?_
          obtain ⟨u, v, rfl, hu, hv⟩ := rel2 hR
          obtain ⟨hi0, rfl⟩ := ptr_inv hu
          obtain rfl := sc_inv hv
          have hbox := map_box hW hi
          obtain ⟨ents, clk, a1, a2, a3, a4, a5⟩ := hW.obj j _ hj
          obtain ⟨D0, o1, o2, o3⟩ := keys_own (P := Tryz.prog) (kt := 9) klays.t26 a4 hK a5 a1
          refine (names_calls hbox o1 o2 hK.len o3 hcall hS).mono ?_
          rintro e w' ⟨v, rfl, hb, hr⟩
          refine ⟨v, _, 9, rfl, hb, ?_, relL_ts _⟩
          have : (ts (sortC Lib.compareBytes (picks p.data.toList ks))).length = (picks p.data.toList ks).length := by simp [ts_len, sortC, List.length_mergeSort]
          show w'.ownsRow _ _ _ _ (ts (sortC Lib.compareBytes (picks p.data.toList ks))).length _
          rw [this]
          exact hr
        · cases hx
      · cases hx
    · cases hx
  · cases hx
end Go.DS

/-
  slices.Sorted of maps.Keys, of whole numbers; maps.Clone of such a map.
-/
namespace Go.DS
open Go Go.Proofs Go.Shelf Go.RowKit Go.Sort Go.Maps Go.ChangeMaps Go.MapKept
set_option linter.unusedVariables false
set_option linter.unusedSimpArgs false
def sklays_ren : Ren := ⟨fun | 10 => 73 | n => n,
  fun | 33 => 122 | 23 => 71 | 0 => 0 | 4 => 4 | 26 => 3 | 3 => 75 | n => n,
  fun n => n⟩
theorem sklays : SlLaysZI.n10 Tryz.prog sklays_ren where
  mixed := by kernel_rfl
  f10 := ⟨"maps.Keys[map[int]syndic/session.last,int,syndic/session.last]$1", of_decide_eq_true (by kernel_rfl), Tryz.func73.trans (congrArg some (by kernel_rfl))⟩
  t0 := Tryz.underlying0
  a0 := Tryz.isAgg0
  z0 := Tryz.sizeOf0
  v0 := Tryz.zeroValue0
  t4 := Tryz.underlying4
  a4 := Tryz.isAgg4
  z4 := Tryz.sizeOf4
  v4 := Tryz.zeroValue4
  t23 := Tryz.underlying71
  a23 := Tryz.isAgg71
  z23 := Tryz.sizeOf71
  v23 := Tryz.zeroValue71
  t26 := Tryz.underlying3
  a26 := Tryz.isAgg3
  z26 := Tryz.sizeOf3
  v26 := Tryz.zeroValue3
  t33 := Tryz.underlying122
  a33 := Tryz.isAgg122
  z33 := Tryz.sizeOf122
  v33 := Tryz.zeroValue122
def solays_ren : Ren := ⟨fun | 6 => 40 | 8 => 71 | 9 => 72 | 11 => 102 | 13 => 104 | 12 => 103 | 23 => 136 | 24 => 137 | 14 => 127 | 15 => 128 | 16 => 129 | 17 => 130 | 18 => 131 | 19 => 132 | 20 => 133 | 21 => 134 | 22 => 135 | 25 => 163 | 26 => 164 | 27 => 165 | 28 => 166 | 29 => 167 | 30 => 168 | 31 => 182 | n => n,
  fun | 26 => 3 | 28 => 85 | 24 => 82 | 0 => 0 | 3 => 3 | 37 => 149 | 48 => 192 | 50 => 194 | 4 => 4 | 40 => 185 | 39 => 184 | 45 => 189 | 5 => 5 | 9 => 9 | 51 => 211 | 55 => 215 | 57 => 226 | 58 => 227 | 33 => 122 | n => n,
  fun n => n⟩
theorem solays : SlLaysZI.n6 Tryz.prog solays_ren where
  mixed := by kernel_rfl
  f6 := ⟨"slices.Sorted[int]", of_decide_eq_true (by kernel_rfl), Tryz.func40.trans (congrArg some (by kernel_rfl))⟩
  f8 := ⟨"slices.Collect[int]", of_decide_eq_true (by kernel_rfl), Tryz.func71.trans (congrArg some (by kernel_rfl))⟩
  f11 := ⟨"slices.AppendSeq[[]int,int]", of_decide_eq_true (by kernel_rfl), Tryz.func102.trans (congrArg some (by kernel_rfl))⟩
  t0 := Tryz.underlying0
  a0 := Tryz.isAgg0
  z0 := Tryz.sizeOf0
  v0 := Tryz.zeroValue0
  t24 := Tryz.underlying82
  a24 := Tryz.isAgg82
  z24 := Tryz.sizeOf82
  v24 := Tryz.zeroValue82
  t26 := Tryz.underlying3
  a26 := Tryz.isAgg3
  z26 := Tryz.sizeOf3
  v26 := Tryz.zeroValue3
  t28 := Tryz.underlying85
  a28 := Tryz.isAgg85
  z28 := Tryz.sizeOf85
  v28 := Tryz.zeroValue85
  i26 := by kernel_rfl
def sslays_ren : Ren := ⟨fun | 5 => 72 | 8 => 104 | 7 => 103 | 19 => 136 | 20 => 137 | 10 => 127 | 11 => 128 | 12 => 129 | 13 => 130 | 14 => 131 | 15 => 132 | 16 => 133 | 17 => 134 | 18 => 135 | 30 => 163 | 31 => 164 | 32 => 165 | 33 => 166 | 34 => 167 | 35 => 168 | 40 => 182 | n => n,
  fun | 23 => 82 | 25 => 3 | 3 => 3 | 32 => 149 | 22 => 82 | 0 => 0 | 44 => 192 | 46 => 194 | 4 => 4 | 36 => 185 | 35 => 184 | 41 => 189 | 5 => 5 | 9 => 9 | 53 => 211 | 57 => 215 | 63 => 226 | 64 => 227 | n => n,
  fun n => n⟩
theorem sslays : SlLaysM.n5 Tryz.prog sslays_ren where
  mixed := by kernel_rfl
  f5 := ⟨"slices.Sort[[]int,int]", of_decide_eq_true (by kernel_rfl), Tryz.func72.trans (congrArg some (by kernel_rfl))⟩
  f7 := ⟨"slices.pdqsortOrdered[int]", of_decide_eq_true (by kernel_rfl), Tryz.func103.trans (congrArg some (by kernel_rfl))⟩
  f8 := by kernel_rfl
  f10 := ⟨"slices.insertionSortOrdered[int]", of_decide_eq_true (by kernel_rfl), Tryz.func127.trans (congrArg some (by kernel_rfl))⟩
  f11 := ⟨"slices.heapSortOrdered[int]", of_decide_eq_true (by kernel_rfl), Tryz.func128.trans (congrArg some (by kernel_rfl))⟩
  f12 := ⟨"slices.breakPatternsOrdered[int]", of_decide_eq_true (by kernel_rfl), Tryz.func129.trans (congrArg some (by kernel_rfl))⟩
  f13 := ⟨"slices.choosePivotOrdered[int]", of_decide_eq_true (by kernel_rfl), Tryz.func130.trans (congrArg some (by kernel_rfl))⟩
  f14 := ⟨"slices.reverseRangeOrdered[int]", of_decide_eq_true (by kernel_rfl), Tryz.func131.trans (congrArg some (by kernel_rfl))⟩
  f15 := ⟨"slices.partialInsertionSortOrdered[int]", of_decide_eq_true (by kernel_rfl), Tryz.func132.trans (congrArg some (by kernel_rfl))⟩
  f16 := ⟨"cmp.Less[int]", of_decide_eq_true (by kernel_rfl), Tryz.func133.trans (congrArg some (by kernel_rfl))⟩
  f17 := ⟨"slices.partitionEqualOrdered[int]", of_decide_eq_true (by kernel_rfl), Tryz.func134.trans (congrArg some (by kernel_rfl))⟩
  f18 := ⟨"slices.partitionOrdered[int]", of_decide_eq_true (by kernel_rfl), Tryz.func135.trans (congrArg some (by kernel_rfl))⟩
  f19 := by kernel_rfl
  f20 := by kernel_rfl
  f30 := ⟨"slices.siftDownOrdered[int]", of_decide_eq_true (by kernel_rfl), Tryz.func163.trans (congrArg some (by kernel_rfl))⟩
  f31 := by kernel_rfl
  f32 := by kernel_rfl
  f33 := ⟨"slices.medianAdjacentOrdered[int]", of_decide_eq_true (by kernel_rfl), Tryz.func166.trans (congrArg some (by kernel_rfl))⟩
  f34 := ⟨"slices.medianOrdered[int]", of_decide_eq_true (by kernel_rfl), Tryz.func167.trans (congrArg some (by kernel_rfl))⟩
  f35 := ⟨"cmp.isNaN[int]", of_decide_eq_true (by kernel_rfl), Tryz.func168.trans (congrArg some (by kernel_rfl))⟩
  f40 := ⟨"slices.order2Ordered[int]", of_decide_eq_true (by kernel_rfl), Tryz.func182.trans (congrArg some (by kernel_rfl))⟩
  t0 := Tryz.underlying0
  a0 := Tryz.isAgg0
  z0 := Tryz.sizeOf0
  v0 := Tryz.zeroValue0
  t3 := Tryz.underlying3
  a3 := Tryz.isAgg3
  z3 := Tryz.sizeOf3
  v3 := Tryz.zeroValue3
  t4 := Tryz.underlying4
  a4 := Tryz.isAgg4
  z4 := Tryz.sizeOf4
  v4 := Tryz.zeroValue4
  t5 := Tryz.underlying5
  a5 := Tryz.isAgg5
  z5 := Tryz.sizeOf5
  v5 := Tryz.zeroValue5
  t9 := Tryz.underlying9
  a9 := Tryz.isAgg9
  z9 := Tryz.sizeOf9
  v9 := Tryz.zeroValue9
  t22 := Tryz.underlying82
  a22 := Tryz.isAgg82
  z22 := Tryz.sizeOf82
  v22 := Tryz.zeroValue82
  t23 := Tryz.underlying82
  a23 := Tryz.isAgg82
  z23 := Tryz.sizeOf82
  v23 := Tryz.zeroValue82
  t25 := Tryz.underlying3
  a25 := Tryz.isAgg3
  z25 := Tryz.sizeOf3
  v25 := Tryz.zeroValue3
  t32 := Tryz.underlying149
  a32 := Tryz.isAgg149
  z32 := Tryz.sizeOf149
  v32 := Tryz.zeroValue149
  t35 := Tryz.underlying184
  a35 := Tryz.isAgg184
  z35 := Tryz.sizeOf184
  v35 := Tryz.zeroValue184
  t36 := Tryz.underlying185
  a36 := Tryz.isAgg185
  z36 := Tryz.sizeOf185
  v36 := Tryz.zeroValue185
  t41 := Tryz.underlying189
  a41 := Tryz.isAgg189
  z41 := Tryz.sizeOf189
  v41 := Tryz.zeroValue189
  t44 := Tryz.underlying192
  a44 := Tryz.isAgg192
  z44 := Tryz.sizeOf192
  v44 := Tryz.zeroValue192
  t46 := Tryz.underlying194
  a46 := Tryz.isAgg194
  z46 := Tryz.sizeOf194
  v46 := Tryz.zeroValue194
  t53 := Tryz.underlying211
  a53 := Tryz.isAgg211
  z53 := Tryz.sizeOf211
  v53 := Tryz.zeroValue211
  t57 := Tryz.underlying215
  a57 := Tryz.isAgg215
  z57 := Tryz.sizeOf215
  v57 := Tryz.zeroValue215
  t63 := Tryz.underlying226
  a63 := Tryz.isAgg226
  z63 := Tryz.sizeOf226
  v63 := Tryz.zeroValue226
  t64 := Tryz.underlying227
  a64 := Tryz.isAgg227
  z64 := Tryz.sizeOf227
  v64 := Tryz.zeroValue227
def sclays_ren : Ren := ⟨fun | 5 => 36 | 7 => 64 | n => n,
  fun | 23 => 71 | 25 => 3 | 3 => 75 | 4 => 4 | 20 => 20 | n => n,
  fun n => n⟩
theorem sclays : SlLaysW.n5 Tryz.prog sclays_ren where
  mixed := by kernel_rfl
  f5 := ⟨"maps.Clone[map[int]syndic/session.last,int,syndic/session.last]", of_decide_eq_true (by kernel_rfl), Tryz.func36.trans (congrArg some (by kernel_rfl))⟩
  f7 := by kernel_rfl
  t4 := Tryz.underlying4
  a4 := Tryz.isAgg4
  z4 := Tryz.sizeOf4
  v4 := Tryz.zeroValue4
  t20 := Tryz.underlying20
  a20 := Tryz.isAgg20
  z20 := Tryz.sizeOf20
  v20 := Tryz.zeroValue20
  t23 := Tryz.underlying71
  a23 := Tryz.isAgg71
  z23 := Tryz.sizeOf71
  v23 := Tryz.zeroValue71
def numV : Value → Int
  | .int _ n => n
  | _ => 0
theorem keysI_vals {g : Gh} {es : List (DV × DV)} {ents : List MapEntry} {ks : List Int} (hE : RelE g es ents) (hK : es.map (·.1) = ks.map num) : ents.map (·.key) = ks.map (Value.int .i64) := by
  have hl : es.length = ks.length := by have := congrArg List.length hK; simpa using this
  apply List.ext_getElem?
  intro i
  rw [List.getElem?_map, List.getElem?_map]
  by_cases hi : i < ks.length
  · have hi1 : i < es.length := by omega
    have hi2 : i < ents.length := by have := hE.len; omega
    rw [List.getElem?_eq_getElem hi, List.getElem?_eq_getElem hi2]
    have := (hE.at_ i _ _ (List.getElem?_eq_getElem hi1) (List.getElem?_eq_getElem hi2)).1
    have hk := congrArg (·[i]?) hK
    simp only [List.getElem?_map, List.getElem?_eq_getElem hi, List.getElem?_eq_getElem hi1, Option.map_some, Option.some.injEq] at hk
    rw [hk] at this
    rw [Option.map_some, Option.map_some, sc_inv this]
  · rw [List.getElem?_eq_none (by have := hE.len; omega), List.getElem?_eq_none (by omega)]; rfl
theorem keysI_own {P : Program} {g : Gh} {w : World} {b : Nat} {es : List (DV × DV)} {ents : Array MapEntry} {clk : Nat} {ks : List Int} {kt : TypeId} (hk : P.underlying kt = some (.int .i64)) (hE : RelE g es ents.toList) (hK : KeysIOK es ks)
    (hst : DS.Stamped ents.toList clk) (hb : w.heap[b]? = some (.map ents clk)) :
    ∃ D0 : DataW Unit, w.ownsMap P kt (fun _ => some (.lit (.bool true), [])) b ks.length D0 ∧ (intKeys D0).Perm ks ∧ Maps.size D0 = ks.length := by
  have hv := keysI_vals hE hK.keys
  have hl : ents.size = ks.length := by have := congrArg List.length hv; simpa using this
  have hx : ∀ x ∈ ents.toList, ∃ s ∈ ks, x.key = .int .i64 s := fun x hx => by
    have : x.key ∈ ks.map (Value.int .i64) := by rw [← hv]; exact List.mem_map_of_mem (f := (·.key)) hx
    obtain ⟨s, hs, he⟩ := List.mem_map.1 this
    exact ⟨s, hs, he.symm⟩
  have hrd : ∀ x ∈ ents.toList, Go.WideElems.rd P kt (fun _ => some ((.lit (.bool true) : DataW Unit), [])) x = some (.int .i64 (numV x.key), .lit (.bool true)) := fun x hx' => by
    obtain ⟨s, hs, he⟩ := hx x hx'
    have hr := hK.range s hs
    have hw : (Lit.int .i64 s).wf = true := by simp [Lit.wf, IntKind.min, IntKind.max, IntKind.signed, IntKind.bits]; omega
    unfold Go.WideElems.rd
    have : keyOf P kt (.int .i64 s) = some (.int .i64 s) := by
      simp only [keyOf, hk, mapKey, hw, and_self, if_true]
    rw [he, this]
    rfl
  have hm : (ents.toList.map (Go.WideElems.rg P kt fun _ => some ((.lit (.bool true) : DataW Unit), []))).map (fun p => Go.intOf p.1) = ks := by
    rw [List.map_map]
    have : ents.toList.map ((fun p : Lit × DataW Unit => Go.intOf p.1) ∘ Go.WideElems.rg P kt fun _ => some ((.lit (.bool true) : DataW Unit), [])) = (ents.toList.map (·.key)).map numV := by
      rw [List.map_map]
      refine List.map_congr_left fun x hx' => ?_
      simp only [Function.comp, Go.WideElems.rg, hrd x hx', Option.getD_some, Go.intOf]
    rw [this, hv, List.map_map]
    exact (List.map_congr_left fun s _ => rfl).trans (List.map_id ks)
  refine ⟨_, ⟨ents, clk, hb, ⟨?_, ⟨hst.1, hst.2, ?_⟩, fun x hx' => ⟨_, hrd x hx'⟩⟩, by omega, rfl⟩, ?_, ?_⟩
  · have := hK.len; simp only [maxLen]; omega
  · rw [hv]; exact List.Pairwise.map _ (fun a b h e => h (by simpa using e)) hK.nodup
  · simp only [intKeys]
    rw [← hm]
    exact (Go.WideShapes.sorted_perm _).map _
  · simp only [Maps.size]
    rw [(Go.WideShapes.sorted_perm _).length_eq, List.length_map, ← hl]
    rfl
theorem sortI_perm {l m : List Int} (h : l.Perm m) : l.mergeSort (fun x y => decide (x ≤ y)) = sortI m := mergeSort_of_perm_i h
theorem relL_nums {g : Gh} (l : List Int) : RelL g (vnums l).flatten (l.map (Value.int .i64)) := by
  have : (vnums l).flatten = l.map num := by
    induction l with
    | nil => rfl
    | cons s l ih => simp only [vnums, List.map_cons, List.flatten_cons] at ih ⊢; rw [ih]; rfl
  rw [this]
  refine ⟨by simp, fun k d v h1 h2 => ?_⟩
  rw [List.getElem?_map] at h1 h2
  cases h3 : l[k]? with
  | none => rw [h3] at h1; cases h1
  | some s => rw [h3] at h1 h2; cases h1; cases h2; exact .sc _
theorem cell_nums (l : List Int) : (vnums l).flatten.all DV.cell = true := by
  simp only [List.all_eq_true, List.mem_flatten]
  rintro d ⟨r, hr, hd⟩
  obtain ⟨s, _, rfl⟩ := List.mem_map.1 hr
  rw [List.mem_singleton.1 hd]; rfl
theorem one_nums (l : List Int) : ∀ r ∈ vnums l, r.length = 1 := by
  intro r hr
  obtain ⟨s, _, rfl⟩ := List.mem_map.1 hr
  rfl
theorem cloneS_ok {args : List DV} {h : DHeap} {r : DV} {h' : DHeap} (hx : cloneF args h = some (r, h')) : CallOK Tryz.prog 36 args h r h' := clone_ok_of sclays hx
theorem sorts_ok (m : Nat) : AnyZI.SortsIn Tryz.prog solays_ren Fence.wide m :=
  ⟨fun blk off cap ss W hH hblk hsz => callsIn_wide.2 (AnyM.slices_Sort_int sslays blk off cap ss W hH hblk hsz),
   fun p cap W => callsIn_wide.2 (AnyM.slices_Sort_int_none sslays p cap W)⟩
set_option maxRecDepth 100000 in
set_option maxHeartbeats 2000000 in
theorem keysIF_ok {args : List DV} {h : DHeap} {r : DV} {h' : DHeap} (hx : keysIF 73 args h = some (r, h')) : CallOK Tryz.prog 40 args h r h' := by
  unfold keysIF at hx
  split at hx
  · rename_i h0 a i
    split at hx
    · rename_i j hi
      split at hx
      · rename_i es hj
        split at hx
        · rename_i hc
          obtain ⟨rfl, hK⟩ := hc
          cases hx
          generalize es.map (fun e => keyI e.1) = ks at *
          refine callOK_row (one_nums _) (cell_nums _) fun g w vs hW hR => ?_
          obtain ⟨u, rfl, hu⟩ := rel1 hR
          obtain ⟨p, rfl, hp⟩ := fn_inv0 hu
          obtain ⟨hi0, rfl⟩ := ptr_inv hp
          have hbox := map_box hW hi
          obtain ⟨ents, clk, a1, a2, a3, a4, a5⟩ := hW.obj j _ hj
          obtain ⟨D0, o1, o2, o3⟩ := keysI_own (P := Tryz.prog) (kt := 3) sklays.t26 a4 hK a5 a1
          have hlen : (vnums (sortI ks)).length = ks.length := by simp [vnums, sortI, List.length_mergeSort]
          rw [hlen]
          have hseq := AnyZI.keys_gives (H := Unit) sklays Fence.wide 7 trivial rfl (by omega) (g.η i) (g.η j) ks.length D0 w (lt_of_cell hbox) hbox o1
          have hcol := callsIn_wide.1 (AnyZI.sorted_in solays Fence.wide 10 trivial trivial trivial trivial rfl (by omega) (sorts_ok _) (enters_of Tryz.func72 (by kernel_rfl) rfl) 73 #[.pointer (some ⟨g.η i, 0, none⟩)] trivial (sklays.f10.enters rfl)
            (fun ss => ss.Perm (intKeys D0)) (Maps.size D0) (by have := hK.len; rw [o3]; simp only [maxLen]; omega) (by have := hK.len; rw [o3]; omega) w hseq)
          refine hcol.mono ?_
          rintro e W ⟨v, ss, rfl, hperm, hrow, _, hb⟩
          have hpk := hperm.trans o2
          rw [sortI_perm hpk, hpk.length_eq] at hrow
          exact ⟨v, _, _, rfl, hb, hrow, relL_nums _⟩
        · cases hx
      · cases hx
    · cases hx
  · cases hx
end Go.DS

/-
  (*session.Machine).Clone.
-/
namespace Go.DS
open Go Go.Proofs Go.Shelf Go.RowKit Go.Sort Go.Maps Go.ChangeMaps Go.MapKept
set_option linter.unusedVariables false
set_option linter.unusedSimpArgs false
set_option maxRecDepth 100000 in
set_option maxHeartbeats 2000000 in
theorem dcl_calls (d j : Nat) (ents : Array MapEntry) (clk : Nat) (W : World) (hc : W.cell? ⟨d, 0, none⟩ = some (.map (some j))) (hb : W.heap[j]? = some (.map ents clk)) :
    Calls Tryz.prog 35 #[.pointer (some ⟨d, 0, none⟩)] W fun e w' => e = .returned (.pointer (some ⟨W.heap.size + 1, 0, none⟩)) ∧ ∃ t, w' = (W.alloc (.map ents clk)).alloc (.cells #[.map (some W.heap.size)] t) := by
  have hm := AnyW.maps_Clone clays j ents clk W hb
  go_enter Tryz.func35, Tryz.ntmps35
  go_wp2_with (go_at_call 63; refine hm.mono ?_; rintro e w' ⟨rfl, rfl⟩)
  go_ret
  exact ⟨rfl, _, rfl⟩
theorem drew_cell {w : World} {a : Addr} {v : Value} (h : w.cell? a = some v) : w.drew.cell? a = some v := h
theorem drew_heap {w : World} {k : Nat} {o : Obj} (h : w.heap[k]? = some o) : w.drew.heap[k]? = some o := h
theorem heap_alloc_some {w : World} {k : Nat} {o o' : Obj} (h : w.heap[k]? = some o) : (w.alloc o').heap[k]? = some o := (Below.heap_alloc _ _ k (Array.getElem?_eq_some_iff.1 h).1).trans h
set_option maxRecDepth 100000 in
set_option maxHeartbeats 2000000 in
theorem mcl_calls (i d j k : Nat) (ents : Array MapEntry) (clk : Nat) (ents2 : Array MapEntry) (clk2 : Nat) (W : World) (c1 : W.cell? ⟨i, 0, none⟩ = some (.pointer (some ⟨d, 0, none⟩))) (c2 : W.cell? ⟨i, 1, none⟩ = some (.map (some k)))
    (hc : W.cell? ⟨d, 0, none⟩ = some (.map (some j))) (hb : W.heap[j]? = some (.map ents clk)) (hb2 : W.heap[k]? = some (.map ents2 clk2)) :
    Calls Tryz.prog 15 #[.pointer (some ⟨i, 0, none⟩)] W fun e w' => e = .returned (.pointer (some ⟨W.heap.size + 3, 0, none⟩)) ∧
      ∃ t t' q, w' = ((((W.alloc (.map ents clk)).alloc (.cells #[.map (some W.heap.size)] t)).alloc (.map ents2 clk2)).alloc (.cells #[.pointer (some ⟨W.heap.size + 1, 0, none⟩), .map (some (W.heap.size + 2))] t')).drewN q := by
  have hd := fun W' h1 h2 => dcl_calls d j ents clk W' h1 h2
  go_enter Tryz.func15, Tryz.ntmps15
  have hm := fun (W' : World) (h : W'.heap[k]? = some (.map ents2 clk2)) => AnyW.maps_Clone sclays k ents2 clk2 W'.drew h
  go_wp2
  go_region_held3 (fun w' => w'.cell? ⟨i, 0, none⟩ = some (.pointer (some ⟨d, 0, none⟩)) ∧ w'.cell? ⟨i, 1, none⟩ = some (.map (some k)) ∧ w'.cell? ⟨d, 0, none⟩ = some (.map (some j)) ∧ w'.heap[j]? = some (.map ents clk) ∧ w'.heap[k]? = some (.map ents2 clk2)) ((refine ⟨?_, ?_, ?_, ?_, ?_⟩ <;> (repeat first | assumption | apply Lib.cell?_alloc_some | apply heap_alloc_some | apply drew_cell | apply drew_heap)))
    (first | (go_at_call 35; refine (hd W.drew hc hb).mono ?_; rintro e w' ⟨rfl, t, rfl⟩) | (go_at_call 36; refine (hm _ (heap_alloc_some (heap_alloc_some hb2))).mono ?_; rintro e w' ⟨rfl, rfl⟩))
  all_goals go_wp2
  go_ret
  exact ⟨rfl, _, _, 1, rfl⟩
theorem rel_new_mp {g : Gh} {s : Nat} : RelV (g.addObj s) (.mp g.n) (.map (some s)) := by
  have := RelV.mp (g := g.addObj s) (i := g.n) (by simp [Gh.addObj])
  rwa [show (g.addObj s).η g.n = s by simp [Gh.addObj]] at this
theorem rel_new_ptr {g : Gh} {s : Nat} : RelV (g.addObj s) (.ptr g.n 0) (.pointer (some ⟨s, 0, none⟩)) := by
  have := RelV.ptr (g := g.addObj s) (i := g.n) (off := 0) (by simp [Gh.addObj])
  rwa [show (g.addObj s).η g.n = s by simp [Gh.addObj]] at this
theorem push_map {g : Gh} {h : DHeap} {w : World} (hW : WInv g h w) {ents : Array MapEntry} {clk : Nat} {es : List (DV × DV)} (hr : RelE g es ents.toList) (hs : Stamped ents.toList clk) :
    WInv (g.addObj w.heap.size) (h ++ [.map es]) (w.alloc (.map ents clk)) := by
  have ht := touch_addObj hW.pc (.map ents clk)
  refine winv_push hW ?_
  show HeldMap _ _ ((g.addObj w.heap.size).η g.n) _ _
  rw [show (g.addObj w.heap.size).η g.n = w.heap.size by simp [Gh.addObj]]
  exact ⟨ents, clk, heap_new w _, by simp [Gh.addObj], fun o' => pc_fresh hW.pc (Nat.le_refl _) o', ⟨hr.len, fun k x y hx hy => ⟨(hr.at_ k x y hx hy).1.mono ht.le, (hr.at_ k x y hx hy).2.mono ht.le⟩⟩, hs⟩
theorem push_cells {g : Gh} {h : DHeap} {w : World} (hW : WInv g h w) {vs : Array Value} {e : TypeId} {cs : List DV} (hr : RelL g cs vs.toList) (hs : ∀ c ∈ cs, c.shed = c) :
    WInv (g.addObj w.heap.size) (h ++ [.cells cs]) (w.alloc (.cells vs e)) := by
  have ht := touch_addObj hW.pc (.cells vs e)
  refine winv_push hW ?_
  show Held _ _ ((g.addObj w.heap.size).η g.n) _ _ _
  rw [show (g.addObj w.heap.size).η g.n = w.heap.size by simp [Gh.addObj]]
  exact held_of_shed (heap_new w _) (by simp [Gh.addObj]) (fun o' => pc_fresh hW.pc (Nat.le_refl _) o') (hr.mono ht.le) hs
theorem relE_mono {g g' : Gh} (hg : Gh.Le g g') {es : List (DV × DV)} {l : List MapEntry} (hr : RelE g es l) : RelE g' es l :=
  ⟨hr.len, fun k x y hx hy => ⟨(hr.at_ k x y hx hy).1.mono hg, (hr.at_ k x y hx hy).2.mono hg⟩⟩
theorem mclF_ok {args : List DV} {h : DHeap} {r : DV} {h' : DHeap} (hx : mclF args h = some (r, h')) : CallOK Tryz.prog 15 args h r h' := by
  unfold mclF at hx
  split at hx
  rotate_left
  · cases hx
  rename_i h0 i
  split at hx
  rotate_left
  · cases hx
  rename_i d k hi
  split at hx
  rotate_left
  · cases hx
  rename_i j hd
  split at hx
  rotate_left
  · cases hx
  rename_i es fs hj hk
  cases hx
  intro dd g w vs hW hR
  obtain ⟨u, rfl, hu⟩ := rel1 hR
  obtain ⟨hi', rfl⟩ := ptr_inv hu
  obtain ⟨vi, eti, a1, a2, a3, a4, a5⟩ := hW.obj i _ hi
  obtain ⟨v1, v2, a4', hv1, a4''⟩ := RelL.cons_inv a4
  obtain ⟨v3, v4, a6, hv3, a7⟩ := RelL.cons_inv a4''
  have a8 := a7.nil_inv
  subst a8; subst a6
  obtain ⟨hd', rfl⟩ := ptr_inv hv1
  obtain ⟨hk', rfl⟩ := mp_inv hv3
  obtain ⟨vd, etd, b1, b2, b3, b4, b5⟩ := hW.obj d _ hd
  obtain ⟨u, rfl, hu2⟩ := rel1 b4
  obtain ⟨hj', rfl⟩ := mp_inv hu2
  obtain ⟨ents, clk, c1, c2, c3, c4, c5⟩ := hW.obj j _ hj
  obtain ⟨ents2, clk2, d1, d2, d3, d4, d5⟩ := hW.obj k _ hk
  have hvi : vi = #[.pointer (some ⟨g.η d, 0, none⟩), .map (some (g.η k))] := by rw [← Array.toList_inj]; exact a4'
  subst hvi
  refine (mcl_calls (g.η i) (g.η d) (g.η j) (g.η k) ents clk ents2 clk2 w (by simp [World.cell?, a1]) (by simp [World.cell?, a1]) (by simp [World.cell?, b1]) c1 d1).mono ?_
  rintro e w' ⟨rfl, t, t', q, rfl⟩
  have W1 := push_map hW c4 c5
  have t1 := touch_addObj hW.pc (.map ents clk)
  have W2 := push_cells (vs := #[.map (some w.heap.size)]) (e := t) (cs := [.mp g.n]) W1 (.cons rel_new_mp (.nil _)) (by simp [DV.shed])
  have t2 := touch_addObj W1.pc (.cells #[.map (some w.heap.size)] t)
  have W3 := push_map W2 (relE_mono (t1.le.trans t2.le) d4) d5
  have t3 := touch_addObj W2.pc (.map ents2 clk2)
  have r1 := (rel_new_ptr (g := g.addObj w.heap.size) (s := (w.alloc (.map ents clk)).heap.size)).mono t3.le
  have r2 := rel_new_mp (g := (g.addObj w.heap.size).addObj (w.alloc (.map ents clk)).heap.size) (s := ((w.alloc (.map ents clk)).alloc (.cells #[.map (some w.heap.size)] t)).heap.size)
  have s1 : (w.alloc (.map ents clk)).heap.size = w.heap.size + 1 := Array.size_push ..
  have s2 : ((w.alloc (.map ents clk)).alloc (.cells #[.map (some w.heap.size)] t)).heap.size = w.heap.size + 2 := by
    show (Array.push _ _).size = _
    rw [Array.size_push, s1]
  have s3 : (((w.alloc (.map ents clk)).alloc (.cells #[.map (some w.heap.size)] t)).alloc (.map ents2 clk2)).heap.size = w.heap.size + 3 := by
    show (Array.push _ _).size = _
    rw [Array.size_push, s2]
  have W4 := push_cells (vs := #[.pointer (some ⟨(w.alloc (.map ents clk)).heap.size, 0, none⟩), .map (some ((w.alloc (.map ents clk)).alloc (.cells #[.map (some w.heap.size)] t)).heap.size)]) (e := t') (cs := [.ptr (g.n + 1) 0, .mp (g.n + 2)]) W3 (.cons r1 (.cons r2 (.nil _))) (by simp [DV.shed])
  have t4 := touch_addObj W3.pc (.cells #[.pointer (some ⟨(w.alloc (.map ents clk)).heap.size, 0, none⟩), .map (some ((w.alloc (.map ents clk)).alloc (.cells #[.map (some w.heap.size)] t)).heap.size)] t')
  have r3 := rel_new_ptr (g := ((g.addObj w.heap.size).addObj (w.alloc (.map ents clk)).heap.size).addObj ((w.alloc (.map ents clk)).alloc (.cells #[.map (some w.heap.size)] t)).heap.size) (s := (((w.alloc (.map ents clk)).alloc (.cells #[.map (some w.heap.size)] t)).alloc (.map ents2 clk2)).heap.size)
  have hn := hW.n
  have E := (((t1.ext (d := dd) (.inl (Nat.le_refl _))).trans (t2.ext (.inl (Nat.le_refl _)))).trans (t3.ext (.inl (Nat.le_refl _)))).trans (t4.ext (.inl (Nat.le_refl _)))
  simp only [s1, s2, s3] at W4 E r3
  refine ⟨_, _, 0, rfl, ⟨E.le, E.heap, E.kind, E.pc, E.size, E.os, E.tape, E.output, fun hm => Nat.le_trans (E.drawn hm) (Nat.le_add_right _ _)⟩, ?_, ?_, .none rfl⟩
  rotate_left
  · have e : h.length + 3 = g.n + 3 := by omega
    rw [e]
    exact r3
  · have e : h ++ [DObj.map es, .cells [.mp h.length], .map fs, .cells [.ptr (h.length + 1) 0, .mp (h.length + 2)]] = h ++ [.map es] ++ [.cells [.mp g.n]] ++ [.map fs] ++ [.cells [.ptr (g.n + 1) 0, .mp (g.n + 2)]] := by simp [hn]
    rw [e]
    exact ⟨W4.n, W4.pc, W4.obj⟩
end Go.DS

/-
  slices.Grow of nil: the kit's contract, over this program.
-/
namespace Go.DS
open Go Go.Proofs Go.Shelf
set_option linter.unusedVariables false
set_option linter.unusedSimpArgs false
def glays_ren : Ren := ⟨fun | 4 => 138 | n => n,
  fun | 22 => 123 | 25 => 154 | 3 => 3 | 4 => 4 | 9 => 9 | 20 => 20 | 0 => 0 | n => n,
  fun n => n⟩
theorem glays : Lays8.n4 Tryz.prog glays_ren where
  mixed := by kernel_rfl
  f4 := ⟨"slices.Grow[[]syndic/touch.Cell,syndic/touch.Cell]", of_decide_eq_true (by kernel_rfl), Tryz.func138.trans (congrArg some (by kernel_rfl))⟩
  t0 := Tryz.underlying0
  a0 := Tryz.isAgg0
  z0 := Tryz.sizeOf0
  v0 := Tryz.zeroValue0
  t3 := Tryz.underlying3
  a3 := Tryz.isAgg3
  z3 := Tryz.sizeOf3
  v3 := Tryz.zeroValue3
  t4 := Tryz.underlying4
  a4 := Tryz.isAgg4
  z4 := Tryz.sizeOf4
  v4 := Tryz.zeroValue4
  t9 := Tryz.underlying9
  a9 := Tryz.isAgg9
  z9 := Tryz.sizeOf9
  v9 := Tryz.zeroValue9
  t20 := Tryz.underlying20
  a20 := Tryz.isAgg20
  z20 := Tryz.sizeOf20
  v20 := Tryz.zeroValue20
  t22 := Tryz.underlying123
  a22 := Tryz.isAgg123
  z22 := Tryz.sizeOf123
  v22 := Tryz.zeroValue123
theorem zeroCells_size (z : Array Value) (n : Nat) : (Builtin.zeroCells z n).size = n * z.size := by simp [Builtin.zeroCells]
theorem grow_ok_of {P : Program} {ρ : Ren} (L : Lays8.n4 P ρ) {s b : Nat} (hi : (P.info? (ρ.t 25)).map (fun i => (i.size, i.bytes, i.zero.map (·.cells.size))) = some (s, b, some s)) (hs : 0 < s) (hb : b ≤ 100000)
    {args : List DV} {h : DHeap} {r : DV} {h' : DHeap} (hx : growF s args h = some (r, h')) : CallOK P (ρ.f 4) args h r h' := by
  unfold growF at hx
  split at hx
  · rename_i h0 n
    split at hx
    · rename_i hn
      cases hx
      obtain ⟨m, rfl⟩ : ∃ m : Nat, n = m := ⟨n.toNat, by omega⟩
      intro d g w vs hW hR
      obtain ⟨u, v, rfl, hu, hv⟩ := rel2 hR
      obtain rfl := sc_inv hu
      obtain rfl := sc_inv hv
      by_cases hm : m = 0
      · subst hm
        refine (Any8.slices_Grow_room L none 0 0 0 w (by omega) (by omega) (by omega) (by omega)).mono ?_
        rintro e w' ⟨rfl, rfl⟩
        exact ⟨g, _, 0, rfl, .refl .., hW, .empty, .mk_list fun hlt => by simp at hlt⟩
      · cases hI : P.info? (ρ.t 25) with
        | none => rw [hI] at hi; cases hi
        | some i0 =>
          rw [hI] at hi
          simp only [Option.map_some, Option.some.injEq, Prod.mk.injEq] at hi
          obtain ⟨e1, e2, e3⟩ := hi
          cases hz : i0.zero with
          | none => rw [hz] at e3; cases e3
          | some z =>
            rw [hz] at e3
            simp only [Option.map_some, Option.some.injEq] at e3
            refine (Any8.slices_Grow_grow L i0 z hI hz (by omega) none 0 0 m [] w (by omega) (by omega) (by rw [e2]; have : (0 + m) * b ≤ 1048576 * 100000 := Nat.mul_le_mul (by omega) hb; omega) (by omega) (by simp) (fun _ => rfl) (fun a e => by cases e)).mono ?_
            rintro e w' ⟨rfl, rfl⟩
            have hg := grownCap_ge w (0 + m) 0 (ρ.t 25)
            generalize grownCap w (0 + m) 0 (ρ.t 25) = c at hg ⊢
            generalize hX : (([] : List Value).toArray ++ Builtin.zeroCells z.cells (0 + m - 0) ++ Builtin.zeroCells z.cells (c - (0 + m))) = X
            have hXs : X.size = c * s := by
              rw [← hX]
              simp only [List.size_toArray, Array.size_append, zeroCells_size, e3, List.length_nil]
              rw [Nat.zero_add, ← Nat.add_mul]
              congr 1
              omega
            have ht := touch_new_own hW.pc [] X.toList (ρ.t 25) (.ownSlot d 0) (fun u hu => by cases hu)
            rw [List.nil_append, Array.toArray_toList] at ht
            refine ⟨_, _, 0, rfl, ht.ext (.inl (Nat.le_refl _)), ht.winv rfl (.inl (Nat.le_refl _)) hW, .empty, .mk_list fun hlt => ⟨w.heap.size, 0, X, ρ.t 25, rfl, ?_, ?_, ?_, ?_⟩⟩
            · simp [Gh.prot]
            · have := heap_new w.drew (.cells X (ρ.t 25))
              simpa using this
            · simp [hXs]
            · intro o ho
              simp [Gh.prot]
    · cases hx
  · cases hx
theorem growC_ok {args : List DV} {h : DHeap} {r : DV} {h' : DHeap} (hx : growF 2 args h = some (r, h')) : CallOK Tryz.prog 138 args h r h' :=
  grow_ok_of (b := 24) glays (by kernel_rfl) (by omega) (by omega) hx
end Go.DS

/-
  What the evaluator is told of the library's functions holds.
-/
namespace Go.DS
open Go Go.Proofs Go.Shelf Go.RowKit
set_option linter.unusedVariables false
set_option linter.unusedSimpArgs false
theorem ext_ok : ExtS Tryz.prog cfg := by
  intro k F hF args h r h' hx
  change extF k = some F at hF
  unfold extF at hF
  split at hF
  · rename_i hk; subst hk; cases hF
    unfold indexF at hx
    split at hx
    · cases hx; exact index_ok
    · cases hx
  split at hF
  · rename_i hk; subst hk; cases hF
    unfold compF at hx
    split at hx
    · cases hx; exact compare_ok
    · cases hx
  split at hF
  · rename_i hk; subst hk; cases hF
    unfold joinF at hx
    split at hx
    · split at hx
      · rename_i hs
        split at hx
        · rename_i hle; cases hx; exact join_ok' hs hle.1 hle.2
        · cases hx
      · cases hx
    · cases hx
  split at hF
  · rename_i hk; subst hk; cases hF; exact growC_ok hx
  split at hF
  · rename_i hk; subst hk; cases hF; exact clone_ok hx
  split at hF
  · rename_i hk; subst hk; cases hF; exact namesF_ok hx
  split at hF
  · rename_i hk; subst hk; cases hF; exact keysF_ok hx
  split at hF
  · rename_i hk; subst hk; cases hF; exact keysIF_ok hx
  split at hF
  · rename_i hk; subst hk; cases hF; exact cloneS_ok hx
  split at hF
  · rename_i hk; subst hk; cases hF; exact cloneLs_ok hx
  split at hF
  · rename_i hk; subst hk; cases hF; exact mclF_ok hx
  cases hF
theorem ext_okA : @ExtS ⟨true⟩ Tryz.prog cfgA := by
  intro k F hF args h r h' hx
  change extA k = some F at hF
  unfold extA at hF
  split at hF
  · rename_i hk; subst hk; cases hF
    unfold indexF at hx
    split at hx
    · cases hx; exact @index_ok ⟨true⟩ _ _ _
    · cases hx
  split at hF
  · rename_i hk; subst hk; cases hF
    unfold compF at hx
    split at hx
    · cases hx; exact @compare_ok ⟨true⟩ _ _ _
    · cases hx
  cases hF
end Go.DS
