/-
  What Go's library answers.
-/
import Derived.Test.YtpbknejlalkfjaaK4
import Derived.Lib.Bytealg
import Derived.Lib.Join
import Derived.Test.YtpbknejlalkfjaaProg
import Derived.KernelRfl
import Derived.Test.YtpbknejlalkfjaaChecked
import Derived.Lib.Strings
import Derived.Lib.Slices
import Derived.Lib.Walk
import Derived.Shelf.Strings.OnBuilder
import Derived.Below
import Derived.Shelf.Spec.SlicesGrow
import Derived.Laws.AppendOwn
import Derived.Maps.RangeWalk
import Derived.WalkKit
import Derived.Shelf.SlMaps.Clone
import Derived.Shelf.SlSortCmp.NoneTotal
import Derived.Shelf.SlIter.Collect
import Derived.Shelf.SlIterI.Collect
import Derived.Shelf.SlicesE.Clone
import Derived.Shelf.SlicesE.DeleteFunc
set_option linter.unusedSimpArgs false
set_option linter.unusedVariables false
namespace Go.DS
open Go
def byteOf (n : Int) : UInt8 := n.toNat.toUInt8
def indexF : List DV → DHeap → Option (DV × DHeap)
  | [.sc (.string s), .sc (.int .u8 c)], h => some (.sc (.int .i64 (Lib.indexByte s.data.toList (byteOf c))), h)
  | _, _ => none
def compF : List DV → DHeap → Option (DV × DHeap)
  | [.sc (.string s), .sc (.string u)], h => some (.sc (.int .i64 (Lib.compareBytes s.data.toList u.data.toList)), h)
  | _, _ => none
def strsOf : List (List DV) → Option (List (List UInt8))
  | [] => some []
  | [.sc (.string s)] :: l => match strsOf l with
    | some r => some (s.data.toList :: r)
    | none => none
  | _ => none
def joinF : List DV → DHeap → Option (DV × DHeap)
  | [.list _ 1 l, .sc (.string s)], h => match strsOf l with
    | some xs => if xs.length ≤ 1048576 ∧ (Lib.join xs s.data.toList).length ≤ 1099511627776 then some (.sc (.string (mkB (Lib.join xs s.data.toList))), h) else none
    | none => none
  | _, _ => none
/-- slices.Grow of nil. -/
def growF (es : Nat) : List DV → DHeap → Option (DV × DHeap)
  | [.sc (.slice none 0 0), .sc (.int .i64 n)], h => if 0 ≤ n ∧ n ≤ 1048576 then some (.list true es [], h) else none
  | _, _ => none
/-- A list of texts. -/
def ts (l : List (List UInt8)) : List (List DV) := l.map fun s => [.sc (.string (mkB s))]
@[go_sem] theorem ts_len (l : List (List UInt8)) : (ts l).length = l.length := by simp [ts]
@[go_sem] theorem ts_snoc (l : List (List UInt8)) (x : List UInt8) : ts l ++ [[.sc (.string (mkB x))]] = ts (l ++ [x]) := by simp [ts]
@[go_sem] theorem ts_app (l m : List (List UInt8)) : ts l ++ ts m = ts (l ++ m) := by simp [ts]
@[go_sem] theorem ts_take (l : List (List UInt8)) (k : Nat) : (ts l).take k = ts (l.take k) := by simp [ts, List.map_take]
@[go_sem] theorem ts_drop (l : List (List UInt8)) (k : Nat) : (ts l).drop k = ts (l.drop k) := by simp [ts, List.map_drop]
theorem ts_nil : ts [] = [] := rfl
@[go_sem high] theorem idxP_ts (l : List (List UInt8)) (i : Int) (N : List DV → Prop) : IdxP (ts l) i N = IdxP l i fun x => N [.sc (.string (mkB x))] := idxP_map
theorem strsOf_ts : ∀ l : List (List UInt8), strsOf (ts l) = some l
  | [] => rfl
  | s :: l => by
    have := strsOf_ts l
    simp only [ts] at this
    simp only [ts, List.map_cons, strsOf, this]
    rfl
theorem idxP_last {α : Type} (l : List α) (x : α) (N : α → Prop) : IdxP (l ++ [x]) (l.length : Int) N = N x := by
  rw [idxP_nat]; simp
theorem free_ts : ∀ l : List (List UInt8), heapFree.alls (ts l) = true
  | [] => rfl
  | s :: l => by
    have := free_ts l
    simp only [ts] at this
    simp only [ts, List.map_cons, heapFree.alls, heapFree.all, heapFree, this, Bool.and_self]
end Go.DS

/-
  Paths, as plain lists of bytes.
-/
namespace Go.DS
open Go
abbrev Str := List UInt8
def okc (c : UInt8) : Bool := (97 ≤ c.toNat && c.toNat ≤ 122) || (48 ≤ c.toNat && c.toNat ≤ 57) || c.toNat == 45 || c.toNat == 95
def nameOK (l : Str) : Bool := l.all okc && decide (1 ≤ l.length ∧ l.length ≤ 16)
theorem okc_iff (c : UInt8) : okc c = true ↔ (97 ≤ c.toNat ∧ c.toNat ≤ 122) ∨ (48 ≤ c.toNat ∧ c.toNat ≤ 57) ∨ c.toNat = 45 ∨ c.toNat = 95 := by
  simp only [okc, Bool.or_eq_true, Bool.and_eq_true, decide_eq_true_eq, beq_iff_eq, or_assoc]
theorem okc_not (c : UInt8) : okc c = false ↔ ¬ ((97 ≤ c.toNat ∧ c.toNat ≤ 122) ∨ (48 ≤ c.toNat ∧ c.toNat ≤ 57) ∨ c.toNat = 45 ∨ c.toNat = 95) := by
  rw [← okc_iff]; simp
theorem take_all {p : UInt8 → Bool} {l : List UInt8} {k : Nat} (hk : k < l.length) (ha : (l.take k).all p = true) (hp : p l[k] = true) : (l.take (k + 1)).all p = true := by
  rw [List.take_succ_eq_append_getElem hk, List.all_append, ha]
  simp [hp]
theorem not_all {p : UInt8 → Bool} {l : List UInt8} {k : Nat} (hk : k < l.length) (hp : p l[k] = false) : l.all p = false := by
  rw [← Bool.not_eq_true, List.all_eq_true]
  intro hall
  have := hall _ (List.getElem_mem hk)
  rw [hp] at this
  cases this

/-- Up to the next slash; behind it. -/
def seg : Str → Str := List.takeWhile (· ≠ 47)
def aft : Str → Str := List.dropWhile (· ≠ 47)
theorem seg_aft (r : Str) : seg r ++ aft r = r := List.takeWhile_append_dropWhile
theorem aft_le (r : Str) : (aft r).length ≤ r.length := by
  have := congrArg List.length (seg_aft r)
  simp at this; omega
theorem index_lt (r : Str) : Lib.indexByte r 47 = if aft r = [] then -1 else ((seg r).length : Int) := by
  induction r with
  | nil => rfl
  | cons c r ih =>
    unfold Lib.indexByte
    by_cases hc : c = 47
    · subst hc; simp [seg, aft]
    · have h1 : seg (c :: r) = c :: seg r := by simp [seg, hc]
      have h2 : aft (c :: r) = aft r := by simp [aft, hc]
      rw [h1, h2, ih]
      have hb : (c == 47) = false := by simpa using hc
      simp only [hb, Bool.false_eq_true, if_false, List.length_cons]
      split
      · simp
      · have : ((seg r).length : Int) ≠ -1 := by omega
        simp [this]

/-- What split's loop comes to. -/
def runP (p : Str) (l : List Str) : Option (List Str) := match p with
  | [] => if l = [] then none else some l
  | c :: r => if c ≠ 47 then none else if 8 ≤ l.length ∨ nameOK (seg r) = false then none else runP (aft r) (l ++ [seg r])
termination_by p.length
decreasing_by have := aft_le r; simp; omega
/-- A path's names. -/
def parse (p : Str) : Option (List Str) := if p = [47] then some [] else runP p []
end Go.DS

/-
  Maps as plain lists of keys and values.
-/
namespace Go.DS
open Go
set_option linter.unusedVariables false
section
variable {κ α : Type} [DecidableEq κ]
def aget (k : κ) : List (κ × α) → Option α
  | [] => none
  | e :: es => if k = e.1 then some e.2 else aget k es
def aset (k : κ) (v : α) : List (κ × α) → List (κ × α)
  | [] => [(k, v)]
  | e :: es => if k = e.1 then (k, v) :: es else e :: aset k v es
def adel (k : κ) : List (κ × α) → List (κ × α)
  | [] => []
  | e :: es => if k = e.1 then es else e :: adel k es
def keys (es : List (κ × α)) : List κ := es.map (·.1)
theorem aget_iff {k : κ} {es : List (κ × α)} : (aget k es).isSome = true ↔ k ∈ keys es := by
  induction es with
  | nil => simp [aget, keys]
  | cons e es ih =>
    simp only [aget, keys, List.map_cons, List.mem_cons]
    by_cases h : k = e.1
    · simp [h]
    · rw [if_neg h, ih]; simp [h, keys]
theorem aget_none {k : κ} {es : List (κ × α)} : aget k es = none ↔ k ∉ keys es := by
  rw [← aget_iff, ← Option.not_isSome_iff_eq_none]
theorem aget_mem {k : κ} {v : α} {es : List (κ × α)} (h : aget k es = some v) : (k, v) ∈ es := by
  induction es with
  | nil => cases h
  | cons e es ih =>
    simp only [aget] at h
    split at h
    · rename_i hk; cases h; subst hk; exact List.mem_cons_self
    · exact List.mem_cons_of_mem _ (ih h)
theorem aget_of_mem {k : κ} {v : α} {es : List (κ × α)} (hn : (keys es).Nodup) (h : (k, v) ∈ es) : aget k es = some v := by
  induction es with
  | nil => cases h
  | cons e es ih =>
    simp only [keys, List.map_cons, List.nodup_cons] at hn
    simp only [aget]
    rcases List.mem_cons.1 h with rfl | h
    · simp
    · have : k ≠ e.1 := fun he => hn.1 (he ▸ List.mem_map_of_mem (f := (·.1)) h)
      rw [if_neg this]; exact ih hn.2 h
theorem aget_set (k j : κ) (v : α) (es : List (κ × α)) : aget j (aset k v es) = if j = k then some v else aget j es := by
  induction es with
  | nil => simp [aset, aget]
  | cons e es ih =>
    simp only [aset]
    by_cases h : k = e.1
    · rw [if_pos h]
      simp only [aget]
      by_cases hj : j = k
      · simp [hj]
      · rw [if_neg hj, if_neg hj, if_neg (h ▸ hj)]
    · rw [if_neg h]
      simp only [aget, ih]
      by_cases hj : j = e.1
      · rw [if_pos hj, if_pos hj, if_neg (fun e' => h (e'.symm.trans hj))]
      · rw [if_neg hj, if_neg hj]
omit [DecidableEq κ] in
theorem keys_cons (e : κ × α) (es : List (κ × α)) : keys (e :: es) = e.1 :: keys es := rfl
theorem keys_set (k : κ) (v : α) (es : List (κ × α)) : keys (aset k v es) = if k ∈ keys es then keys es else keys es ++ [k] := by
  induction es with
  | nil => simp [aset, keys]
  | cons e es ih =>
    simp only [aset]
    by_cases h : k = e.1
    · rw [if_pos h, keys_cons, keys_cons, if_pos (by simp [h]), h]
    · rw [if_neg h, keys_cons, keys_cons, ih]
      by_cases hm : k ∈ keys es
      · rw [if_pos hm, if_pos (by simp [hm])]
      · rw [if_neg hm, if_neg (by simp [hm, h])]; rfl
theorem nodup_set {k : κ} {v : α} {es : List (κ × α)} (h : (keys es).Nodup) : (keys (aset k v es)).Nodup := by
  rw [keys_set]
  split
  · exact h
  · rename_i hk
    rw [List.nodup_append]
    exact ⟨h, by simp, fun a ha b hb => by rw [List.mem_singleton.1 hb]; exact fun e => hk (e ▸ ha)⟩
omit [DecidableEq κ] in
theorem keys_len (es : List (κ × α)) : (keys es).length = es.length := by simp [keys]
theorem len_set (k : κ) (v : α) (es : List (κ × α)) : (aset k v es).length = if k ∈ keys es then es.length else es.length + 1 := by
  have := congrArg List.length (keys_set k v es)
  rw [keys_len] at this
  rw [this]
  by_cases hm : k ∈ keys es
  · rw [if_pos hm, if_pos hm, keys_len]
  · rw [if_neg hm, if_neg hm, List.length_append, keys_len]; rfl
theorem adel_eq {k : κ} {es : List (κ × α)} (h : (keys es).Nodup) : adel k es = es.filter fun e => decide (e.1 ≠ k) := by
  induction es with
  | nil => rfl
  | cons e es ih =>
    simp only [keys, List.map_cons, List.nodup_cons] at h
    simp only [adel]
    by_cases hk : k = e.1
    · rw [if_pos hk, List.filter_cons_of_neg (by simp [hk])]
      rw [List.filter_eq_self.2]
      intro x hx
      simp only [decide_eq_true_eq]
      intro he
      exact h.1 (by rw [← hk, ← he]; exact List.mem_map_of_mem (f := (·.1)) hx)
    · rw [if_neg hk, List.filter_cons_of_pos (by simp [Ne.symm hk]), ih h.2]
theorem aget_del {k j : κ} {es : List (κ × α)} (h : (keys es).Nodup) : aget j (adel k es) = if j = k then none else aget j es := by
  rw [adel_eq h]
  clear h
  induction es with
  | nil => simp [aget]
  | cons e es ih =>
    by_cases hk : e.1 = k
    · rw [List.filter_cons_of_neg (by simp [hk]), ih]
      simp only [aget]
      by_cases hj : j = k
      · simp [hj]
      · rw [if_neg hj, if_neg hj, if_neg (hk ▸ hj)]
    · rw [List.filter_cons_of_pos (by simp [hk])]
      simp only [aget, ih]
      by_cases hj : j = e.1
      · rw [if_pos hj, if_pos hj, if_neg (fun e' => hk (hj ▸ e'))]
      · rw [if_neg hj, if_neg hj]
theorem nodup_del {k : κ} {es : List (κ × α)} (h : (keys es).Nodup) : (keys (adel k es)).Nodup := by
  rw [adel_eq h]
  exact h.sublist (List.filter_sublist.map _)
theorem keys_del {k : κ} {es : List (κ × α)} (h : (keys es).Nodup) : keys (adel k es) = (keys es).filter fun x => decide (x ≠ k) := by
  rw [adel_eq h]
  simp only [keys]
  rw [List.filter_map]
  rfl

/-- As the evaluator has them. -/
def amap (K : κ → DV) (V : α → DV) (es : List (κ × α)) : List (DV × DV) := es.map fun e => (K e.1, V e.2)
variable {K : κ → DV} {V : α → DV} {ks : List Nat}
omit [DecidableEq κ] in
@[go_sem] theorem amap_len (es : List (κ × α)) : (amap K V es).length = es.length := by simp [amap]
theorem find_amap (hK : ∀ a b, eqKey ks (K a) (K b) = some (decide (a = b))) (k : κ) : ∀ es : List (κ × α), findD ks (K k) (amap K V es) = some ((aget k es).map V)
  | [] => rfl
  | e :: es => by
    have ih := find_amap hK k es
    simp only [amap] at ih
    simp only [amap, List.map_cons, findD, hK, aget]
    by_cases h : k = e.1
    · simp [h]
    · simp only [h, decide_false, ih, if_false]
theorem set_amap (hK : ∀ a b, eqKey ks (K a) (K b) = some (decide (a = b))) (k : κ) (v : α) : ∀ es : List (κ × α), setKey ks (K k) (V v) (amap K V es) = some (amap K V (aset k v es))
  | [] => rfl
  | e :: es => by
    have ih := set_amap hK k v es
    simp only [amap] at ih
    simp only [amap, List.map_cons, setKey, hK, aset]
    by_cases h : k = e.1
    · simp [h]
    · simp only [h, decide_false, ih, if_false, Option.map_some, List.map_cons]
theorem del_amap (hK : ∀ a b, eqKey ks (K a) (K b) = some (decide (a = b))) (k : κ) : ∀ es : List (κ × α), delKey ks (K k) (amap K V es) = some (amap K V (adel k es))
  | [] => rfl
  | e :: es => by
    have ih := del_amap hK k es
    simp only [amap] at ih
    simp only [amap, List.map_cons, delKey, hK, adel]
    by_cases h : k = e.1
    · simp [h]
    · simp only [h, decide_false, ih, if_false, Option.map_some, List.map_cons]
end
theorem mkB_beq (l m : List UInt8) : (mkB l == mkB m) = decide (l = m) := by
  have h : (mkB l == mkB m) = (Array.mk l == Array.mk m) := rfl
  rw [h, Bool.eq_iff_iff]
  simp
/-- Keys that are texts; that are whole numbers. -/
theorem eqK_str (a b : List UInt8) : eqKey [2] (.sc (.string (mkB a))) (.sc (.string (mkB b))) = some (decide (a = b)) := by
  simp only [eqKey, eqV, eq1, mkB_beq, Bool.and_true]
theorem eqK_int (k : IntKind) (a b : Int) : eqKey [0] (.sc (.int k a)) (.sc (.int k b)) = some (decide (a = b)) := by
  simp only [eqKey, eqV, eq1, if_true, Bool.and_true]
  rfl
end Go.DS

/-
  What library functions, and functions with a loop over a map, come to: told by proofs of their own.
-/
namespace Go.DS
open Go
set_option linter.unusedVariables false
/-- A copy of a map. -/
def cloneF : List DV → DHeap → Option (DV × DHeap)
  | [.mp i], h => match h[i]? with
    | some (.map es) => some (.mp h.length, h ++ [.map es])
    | _ => none
  | _, _ => none
def keyS : DV → Str
  | .sc (.string b) => b.data.toList
  | _ => []
abbrev txt (s : Str) : DV := .sc (.string (mkB s))
abbrev num (n : Int) : DV := .sc (.int .i64 n)
/-- Sorted by what tells two apart. -/
def sortC (cf : Str → Str → Int) (l : List Str) : List Str := l.mergeSort fun x y => !decide (cf y x < 0)
/-- What slices.SortFunc asks. -/
structure SortOK (P : Program) (o : FuncId) (cf : Str → Str → Int) (ks : List Str) : Prop where
  callee : calleeOK P o = true
  call : ∀ a ∈ ks, ∀ b ∈ ks, @CallOK ⟨true⟩ P o [txt a, txt b] [] (num (cf a b)) []
  irrefl : ∀ a ∈ ks, ¬ cf a a < 0
  trans : ∀ a ∈ ks, ∀ b ∈ ks, ∀ c ∈ ks, cf a b < 0 → cf b c < 0 → cf a c < 0
  ntrans : ∀ a ∈ ks, ∀ b ∈ ks, ∀ c ∈ ks, ¬ cf a b < 0 → ¬ cf b c < 0 → ¬ cf a c < 0
  total : ∀ a ∈ ks, ∀ b ∈ ks, ¬ cf a b < 0 → ¬ cf b a < 0 → a = b
/-- A map's keys are these texts. -/
structure KeysOK (es : List (DV × DV)) (ks : List Str) : Prop where
  keys : es.map (·.1) = ks.map txt
  nodup : ks.Nodup
  len : ks.length ≤ 1048576
  lens : ∀ k ∈ ks, k.length ≤ 1099511627776
open Classical in
/-- slices.SortedFunc of maps.Keys. -/
noncomputable def keysF (P : Program) (k1 o : FuncId) (cf : Str → Str → Int) : List DV → DHeap → Option (DV × DHeap)
  | [.fn (.func a) [] [.ptr i 0], .fn (.func b) [] []], h => match h[i]? with
    | some (.cells [.mp j]) => match h[j]? with
      | some (.map es) => if a = k1 ∧ b = o ∧ KeysOK es (es.map fun e => keyS e.1) ∧ SortOK P o cf (es.map fun e => keyS e.1) then some (.list true 1 (ts (sortC cf (es.map fun e => keyS e.1))), h) else none
      | _ => none
    | _ => none
  | _, _ => none
open Classical in
/-- Of a map's keys those with a mark, as something else, sorted. -/
noncomputable def namesF (P : Program) (par las o : FuncId) (pf lf : Str → Str) (cf : Str → Str → Int) : List DV → DHeap → Option (DV × DHeap)
  | [.ptr i 0, .sc (.string p)], h => match h[i]? with
    | some (.cells [.mp j]) => match h[j]? with
      | some (.map es) => if KeysOK es (es.map fun e => keyS e.1) ∧ (∀ k ∈ es.map (fun e => keyS e.1), CallOK P par [txt k] [] (txt (pf k)) [] ∧ CallOK P las [txt k] [] (txt (lf k)) [])
          ∧ SortOK P o cf (((es.map fun e => keyS e.1).filter fun k => decide (pf k = p.data.toList)).map lf) then
          some (.list true 1 (ts (sortC cf (((es.map fun e => keyS e.1).filter fun k => decide (pf k = p.data.toList)).map lf))), h) else none
      | _ => none
    | _ => none
  | _, _ => none
/-- Whole numbers as keys. -/
def keyI : DV → Int
  | .sc (.int _ n) => n
  | _ => 0
def sortI (l : List Int) : List Int := l.mergeSort fun x y => decide (x ≤ y)
def vnums (l : List Int) : List (List DV) := l.map fun n => [num n]
structure KeysIOK (es : List (DV × DV)) (ks : List Int) : Prop where
  keys : es.map (·.1) = ks.map num
  nodup : ks.Nodup
  len : ks.length ≤ 1048576
  range : ∀ k ∈ ks, -9223372036854775808 ≤ k ∧ k ≤ 9223372036854775807
open Classical in
/-- slices.Sorted of maps.Keys, of whole numbers. -/
noncomputable def keysIF (k1 : FuncId) : List DV → DHeap → Option (DV × DHeap)
  | [.fn (.func a) [] [.ptr i 0]], h => match h[i]? with
    | some (.cells [.mp j]) => match h[j]? with
      | some (.map es) => if a = k1 ∧ KeysIOK es (es.map fun e => keyI e.1) then some (.list true 1 (vnums (sortI (es.map fun e => keyI e.1))), h) else none
      | _ => none
    | _ => none
  | _, _ => none
open Classical in
/-- A copy of a list, which the call owns. -/
noncomputable def cloneLF (size : Nat) : List DV → DHeap → Option (DV × DHeap)
  | [.list _ es l], h => if es = size ∧ l.length ≤ 1048576 ∧ (∀ r ∈ l, r.length = size) ∧ l.flatten.all DV.cell = true then some (.list true size l, h) else none
  | _, _ => none
/-- A copy of a session machine: a copy of its paths, and of what it knows of its clients. -/
def mclF : List DV → DHeap → Option (DV × DHeap)
  | [.ptr i 0], h => match h[i]? with
    | some (.cells [.ptr d 0, .mp k]) => match h[d]? with
      | some (.cells [.mp j]) => match h[j]?, h[k]? with
        | some (.map es), some (.map fs) => some (.ptr (h.length + 3) 0, h ++ [.map es, .cells [.mp h.length], .map fs, .cells [.ptr (h.length + 1) 0, .mp (h.length + 2)]])
        | _, _ => none
      | _ => none
    | _ => none
  | _, _ => none
/-- Names of a path. -/
def namesP (p : Str) : List Str := (parse p).getD []
def pathOf (l : List Str) : Str := 47 :: Lib.join l [47]
def parentP (p : Str) : Str := if namesP p = [] then [] else pathOf (namesP p).dropLast
def lastP (p : Str) : Str := (namesP p).getLast?.getD []
def cmpF {α : Type} (F : α → α → Int) : List α → List α → Int
  | [], [] => 0
  | [], _ :: _ => -1
  | _ :: _, [] => 1
  | a :: x, b :: y => if F a b ≠ 0 then F a b else cmpF F x y
def lessP (p q : Str) : Bool := match parse p, parse q with
  | some a, some b => decide (cmpF Lib.compareBytes a b < 0)
  | _, _ => false
/-- Which of two paths comes first. -/
def ordP (a b : Str) : Int := if lessP a b = true then -1 else if a = b then 0 else 1
theorem cmpB_zero : ∀ (s u : Str), Lib.compareBytes s u = 0 ↔ s = u
  | [], [] => by simp [Lib.compareBytes]
  | [], _ :: _ => by simp [Lib.compareBytes]
  | _ :: _, [] => by simp [Lib.compareBytes]
  | a :: x, b :: y => by
    have ih := cmpB_zero x y
    simp only [Lib.compareBytes, List.cons.injEq]
    by_cases h1 : a < b
    · have : a ≠ b := fun e => by subst e; exact absurd h1 (UInt8.lt_irrefl a)
      simp [h1, this]
    · by_cases h2 : b < a
      · have : a ≠ b := fun e => by subst e; exact absurd h2 (UInt8.lt_irrefl a)
        simp [h1, h2, this]
      · have : a = b := UInt8.le_antisymm (UInt8.not_lt.1 h2) (UInt8.not_lt.1 h1)
        simp [h1, h2, this, ih]
theorem cmpB_neg : ∀ (s u : Str), decide (Lib.compareBytes s u < 0) = Op.bytesLess s u
  | [], [] => by simp [Lib.compareBytes, Op.bytesLess]
  | [], _ :: _ => by simp [Lib.compareBytes, Op.bytesLess]
  | _ :: _, [] => by simp [Lib.compareBytes, Op.bytesLess]
  | a :: x, b :: y => by
    have ih := cmpB_neg x y
    simp only [Lib.compareBytes, Op.bytesLess]
    by_cases h1 : a < b
    · simp [h1]
    · by_cases h2 : b < a
      · have : a ≠ b := fun e => by subst e; exact absurd h2 (UInt8.lt_irrefl a)
        simp [h1, h2, this]
      · have : a = b := UInt8.le_antisymm (UInt8.not_lt.1 h2) (UInt8.not_lt.1 h1)
        simp [h1, h2, this, ← ih]
/-- A comparison that parts whatever two that are not one. -/
structure TotalCmp {α : Type} (F : α → α → Int) : Prop where
  flip : ∀ a b, F b a = - F a b
  zero : ∀ a b, F a b = 0 ↔ a = b
  trans : ∀ a b c, F a b < 0 → F b c < 0 → F a c < 0
theorem TotalCmp.irrefl {α : Type} {F : α → α → Int} (h : TotalCmp F) (a : α) : ¬ F a a < 0 := by rw [(h.zero a a).2 rfl]; omega
theorem TotalCmp.total {α : Type} {F : α → α → Int} (h : TotalCmp F) (a b : α) (h1 : ¬ F a b < 0) (h2 : ¬ F b a < 0) : a = b := by
  rw [h.flip a b] at h2; exact (h.zero a b).1 (by omega)
theorem TotalCmp.ntrans {α : Type} {F : α → α → Int} (h : TotalCmp F) (a b c : α) (h1 : ¬ F a b < 0) (h2 : ¬ F b c < 0) : ¬ F a c < 0 := by
  intro h3
  by_cases e1 : a = b
  · subst e1; exact h2 h3
  · by_cases e2 : b = c
    · subst e2; exact h1 h3
    · have f1 := h.flip a b
      have f2 := h.flip b c
      have n1 : F a b ≠ 0 := fun e => e1 ((h.zero _ _).1 e)
      have n2 : F b c ≠ 0 := fun e => e2 ((h.zero _ _).1 e)
      have := h.trans c b a (by omega) (by omega)
      have f3 := h.flip a c
      omega
theorem cmpF_total {α : Type} {F : α → α → Int} (h : TotalCmp F) : TotalCmp (cmpF F) where
  flip a b := by
    induction a generalizing b with
    | nil => cases b <;> rfl
    | cons x a ih =>
      cases b with
      | nil => rfl
      | cons y b =>
        simp only [cmpF, h.flip x y]
        by_cases e : F x y = 0
        · simp [e, ih]
        · have : ¬ (- F x y = 0) := by omega
          simp [e, this]
  zero a b := by
    induction a generalizing b with
    | nil => cases b <;> simp [cmpF]
    | cons x a ih =>
      cases b with
      | nil => simp [cmpF]
      | cons y b =>
        simp only [cmpF, List.cons.injEq]
        by_cases e : F x y = 0
        · have e' := (h.zero x y).1 e
          subst e'
          simp [e, ih]
        · have : x ≠ y := fun e' => e ((h.zero x y).2 e')
          simp [e, this]
  trans a b c := by
    induction a generalizing b c with
    | nil => cases b <;> cases c <;> simp [cmpF]
    | cons x a ih =>
      cases b with
      | nil => simp [cmpF]
      | cons y b =>
        cases c with
        | nil => intro _ h2; simp [cmpF] at h2
        | cons z c =>
          simp only [cmpF]
          by_cases e1 : F x y = 0
          · have := (h.zero x y).1 e1
            subst this
            by_cases e2 : F x z = 0
            · simp only [e1, e2, ne_eq, not_true, if_false]; exact ih b c
            · simp only [e1, e2, ne_eq, not_true, not_false_eq_true, if_false, if_true]; intro _ h2; exact h2
          · by_cases e2 : F y z = 0
            · have := (h.zero y z).1 e2
              subst this
              simp only [e1, e2, ne_eq, not_true, not_false_eq_true, if_false, if_true]; intro h1 _; exact h1
            · simp only [e1, e2, ne_eq, not_false_eq_true, if_true]
              intro h1 h2
              have h3 := h.trans x y z h1 h2
              rw [if_pos (by omega)]; exact h3
def cmp8 (a b : UInt8) : Int := if a < b then -1 else if b < a then 1 else 0
theorem cmp8_total : TotalCmp cmp8 where
  flip a b := by
    unfold cmp8
    by_cases h1 : a < b
    · have : ¬ b < a := fun h2 => UInt8.lt_irrefl a (UInt8.lt_trans h1 h2)
      simp [h1, this]
    · by_cases h2 : b < a <;> simp [h1, h2]
  zero a b := by
    unfold cmp8
    by_cases h1 : a < b
    · have : a ≠ b := fun e => by subst e; exact UInt8.lt_irrefl a h1
      simp [h1, this]
    · by_cases h2 : b < a
      · have : a ≠ b := fun e => by subst e; exact UInt8.lt_irrefl a h2
        simp [h1, h2, this]
      · have : a = b := UInt8.le_antisymm (UInt8.not_lt.1 h2) (UInt8.not_lt.1 h1)
        simp [this]
  trans a b c := by
    have key : ∀ a b, cmp8 a b < 0 ↔ a < b := fun a b => by
      unfold cmp8
      by_cases h1 : a < b
      · simp [h1]
      · by_cases h2 : b < a <;> simp [h1, h2]
    rw [key, key, key]; exact fun h1 h2 => UInt8.lt_trans h1 h2
theorem cmpB_eq : ∀ s u : Str, Lib.compareBytes s u = cmpF cmp8 s u
  | [], [] => rfl
  | [], _ :: _ => rfl
  | _ :: _, [] => rfl
  | a :: x, b :: y => by
    have ih := cmpB_eq x y
    simp only [Lib.compareBytes, cmpF, cmp8, ih]
    by_cases h1 : a < b
    · simp [h1]
    · by_cases h2 : b < a <;> simp [h1, h2]
theorem cmpB_total : TotalCmp Lib.compareBytes := by
  have : Lib.compareBytes = cmpF cmp8 := funext fun s => funext fun u => cmpB_eq s u
  rw [this]; exact cmpF_total cmp8_total
theorem cmpB_vals : ∀ s u : Str, Lib.compareBytes s u = -1 ∨ Lib.compareBytes s u = 0 ∨ Lib.compareBytes s u = 1
  | [], [] => by simp [Lib.compareBytes]
  | [], _ :: _ => by simp [Lib.compareBytes]
  | _ :: _, [] => by simp [Lib.compareBytes]
  | a :: x, b :: y => by
    have ih := cmpB_vals x y
    simp only [Lib.compareBytes]
    by_cases h1 : a < b
    · simp [h1]
    · by_cases h2 : b < a
      · simp [h1, h2]
      · simp only [h1, h2, if_false]; exact ih
end Go.DS

/-
  Instances, sets of them: plain.
-/
namespace Go.DS
open Go
set_option linter.unusedVariables false
/-- An instance: its epoch, its node, its number. -/
structure Id where
  e : Int
  n : Int
  k : Int
  deriving DecidableEq
abbrev idL (x : Id) : List DV := [num x.e, num x.n, num x.k]
def idr (l : List Id) : List (List DV) := l.map fun x => [num x.e, num x.n, num x.k]
@[go_sem] theorem idr_len (l : List Id) : (idr l).length = l.length := by simp [idr]
@[go_sem] theorem idr_app (l m : List Id) : idr l ++ idr m = idr (l ++ m) := by simp [idr]
@[go_sem] theorem idr_snoc (l : List Id) (a b c : Int) : idr l ++ [[.sc (.int .i64 a), .sc (.int .i64 b), .sc (.int .i64 c)]] = idr (l ++ [⟨a, b, c⟩]) := by simp [idr]
@[go_sem high] theorem idxP_idr (l : List Id) (i : Int) (N : List DV → Prop) : IdxP (idr l) i N = IdxP l i fun x => N [num x.e, num x.n, num x.k] := idxP_map
theorem free_idr : ∀ l : List Id, heapFree.alls (idr l) = true
  | [] => rfl
  | s :: l => by
    have := free_idr l
    simp only [idr] at this
    simp only [idr, List.map_cons, heapFree.alls, heapFree.all, heapFree, this, Bool.and_self]
theorem below_idr (n : Nat) : ∀ l : List Id, below.alls n (idr l) = true
  | [] => rfl
  | s :: l => by
    have := below_idr n l
    simp only [idr] at this
    simp only [idr, List.map_cons, below.alls, below.all, below, this, Bool.and_self]
@[go_sem] theorem vnums_len (l : List Int) : (vnums l).length = l.length := by simp [vnums]
@[go_sem high] theorem idxP_vnums (l : List Int) (i : Int) (N : List DV → Prop) : IdxP (vnums l) i N = IdxP l i fun e => N [num e] := idxP_map
@[go_sem] theorem vnums_snoc (l : List Int) (n : Int) : vnums l ++ [[.sc (.int .i64 n)]] = vnums (l ++ [n]) := by simp [vnums]
theorem free_vnums : ∀ l : List Int, heapFree.alls (vnums l) = true
  | [] => rfl
  | s :: l => by
    have := free_vnums l
    simp only [vnums] at this
    simp only [vnums, List.map_cons, heapFree.alls, heapFree.all, heapFree, this, Bool.and_self]
theorem below_vnums (n : Nat) : ∀ l : List Int, below.alls n (vnums l) = true
  | [] => rfl
  | s :: l => by
    have := below_vnums n l
    simp only [vnums] at this
    simp only [vnums, List.map_cons, below.alls, below.all, below, this, Bool.and_self]
def cmpI (a b : Int) : Int := if a < b then -1 else if b < a then 1 else 0
/-- Which of two instances comes first. -/
def ordI (a b : Id) : Int := if cmpI a.e b.e ≠ 0 then cmpI a.e b.e else if cmpI a.k b.k ≠ 0 then cmpI a.k b.k else cmpI a.n b.n
theorem cmpI_total : TotalCmp cmpI where
  flip a b := by
    unfold cmpI
    repeat' split
    all_goals omega
  zero a b := by
    unfold cmpI
    repeat' split
    all_goals omega
  trans a b c := by
    unfold cmpI
    repeat' split
    all_goals omega
theorem ordI_lt {a b : Id} : ordI a b < 0 ↔ a.e < b.e ∨ a.e = b.e ∧ (a.k < b.k ∨ a.k = b.k ∧ a.n < b.n) := by
  unfold ordI cmpI
  repeat' split
  all_goals omega
theorem ordI_zero {a b : Id} : ordI a b = 0 ↔ a = b := by
  obtain ⟨a1, a2, a3⟩ := a
  obtain ⟨b1, b2, b3⟩ := b
  simp only [Id.mk.injEq]
  unfold ordI cmpI
  simp only
  repeat' split
  all_goals omega
theorem ordI_total : TotalCmp ordI where
  flip a b := by
    unfold ordI
    rw [cmpI_total.flip a.e b.e, cmpI_total.flip a.k b.k, cmpI_total.flip a.n b.n]
    repeat' split
    all_goals omega
  zero a b := ordI_zero
  trans a b c := by rw [ordI_lt, ordI_lt, ordI_lt]; omega
def insI (x : Id) (l : List Id) : List Id := if x ∈ l then l else l ++ [x]
/-- Each once. -/
def setOf (l : List Id) : List Id := l.foldl (fun m x => insI x m) []
theorem setOf_snoc (l : List Id) (x : Id) : setOf (l ++ [x]) = insI x (setOf l) := by simp [setOf]
theorem mem_insI {x y : Id} {l : List Id} : y ∈ insI x l ↔ y = x ∨ y ∈ l := by
  unfold insI
  split
  · rename_i h
    constructor
    · exact .inr
    · rintro (rfl | h')
      · exact h
      · exact h'
  · simp [or_comm]
theorem nodup_insI {x : Id} {l : List Id} (h : l.Nodup) : (insI x l).Nodup := by
  unfold insI
  split
  · exact h
  · rename_i hx
    rw [List.nodup_append]
    exact ⟨h, by simp, fun a ha b hb => by rw [List.mem_singleton.1 hb]; exact fun e => hx (e ▸ ha)⟩
theorem setOf_go (l m : List Id) (hm : m.Nodup) : (l.foldl (fun m x => insI x m) m).Nodup ∧ (∀ y, y ∈ l.foldl (fun m x => insI x m) m ↔ y ∈ m ∨ y ∈ l) ∧ (l.foldl (fun m x => insI x m) m).length ≤ m.length + l.length := by
  induction l generalizing m with
  | nil => exact ⟨hm, by simp, by simp⟩
  | cons x l ih =>
    obtain ⟨h1, h2, h3⟩ := ih (insI x m) (nodup_insI hm)
    refine ⟨h1, fun y => ?_, ?_⟩
    · rw [List.foldl_cons, h2, mem_insI, List.mem_cons]
      constructor
      · rintro ((h | h) | h)
        · exact .inr (.inl h)
        · exact .inl h
        · exact .inr (.inr h)
      · rintro (h | h | h)
        · exact .inl (.inr h)
        · exact .inl (.inl h)
        · exact .inr h
    · rw [List.foldl_cons]
      have : (insI x m).length ≤ m.length + 1 := by unfold insI; split <;> simp
      simp only [List.length_cons]; omega
theorem setOf_nodup (l : List Id) : (setOf l).Nodup := (setOf_go l [] (by simp)).1
theorem mem_setOf {l : List Id} {y : Id} : y ∈ setOf l ↔ y ∈ l := by have := (setOf_go l [] (by simp)).2.1 y; simpa [setOf] using this
theorem setOf_len (l : List Id) : (setOf l).length ≤ l.length := by have := (setOf_go l [] (by simp)).2.2; simpa [setOf] using this
def sortD (l : List Id) : List Id := l.mergeSort fun x y => !decide (ordI y x < 0)
theorem sortD_mem {l : List Id} {x : Id} : x ∈ sortD l ↔ x ∈ l := (List.mergeSort_perm l _).mem_iff
theorem sortD_len (l : List Id) : (sortD l).length = l.length := by simp [sortD, List.length_mergeSort]
theorem sortD_pw (l : List Id) : (sortD l).Pairwise fun a b => ¬ ordI b a < 0 := by
  have := List.pairwise_mergeSort (le := fun x y : Id => !decide (ordI y x < 0)) (fun a b c h1 h2 => by
    simp only [Bool.not_eq_true', decide_eq_false_iff_not] at *
    exact ordI_total.ntrans c b a h2 h1) (fun a b => by
    by_cases h1 : ordI b a < 0
    · by_cases h2 : ordI a b < 0
      · exact absurd (ordI_total.trans a b a h2 h1) (ordI_total.irrefl a)
      · simp [h2]
    · simp [h1]) l
  exact this.imp fun h => by simpa using h
/-- Rising. -/
def Rises (l : List Id) : Prop := l.Pairwise fun a b => ordI a b < 0
theorem sortD_rises {l : List Id} (h : l.Nodup) : Rises (sortD l) := by
  have h2 : (sortD l).Nodup := (List.mergeSort_perm l _).nodup_iff.2 h
  refine ((sortD_pw l).and h2).imp fun {a b} ⟨h1, h3⟩ => ?_
  exact Decidable.byContradiction fun h4 => h3 (ordI_total.total a b h4 h1)
theorem rises_nodup {l : List Id} (h : Rises l) : l.Nodup := h.imp fun {a b} h1 e => by subst e; exact ordI_total.irrefl a h1
theorem rises_eq {l m : List Id} (hl : Rises l) (hm : Rises m) (h : ∀ x, x ∈ l ↔ x ∈ m) : l = m := by
  have hp : l.Perm m := by rw [List.perm_ext_iff_of_nodup (rises_nodup hl) (rises_nodup hm)]; exact h
  refine List.Perm.eq_of_pairwise (fun a b _ _ h1 h2 => ?_) hl hm hp
  exact absurd (ordI_total.trans a b a h1 h2) (ordI_total.irrefl a)
theorem sortD_perm {l m : List Id} (h : l.Perm m) : sortD l = sortD m :=
  List.Perm.eq_of_pairwise (fun a b _ _ h1 h2 => ordI_total.total a b h2 h1) (sortD_pw l) (sortD_pw m) ((List.mergeSort_perm l _).trans (h.trans (List.mergeSort_perm m _).symm))
/-- The set of a list. -/
def cleanP (l : List Id) : List Id := sortD (setOf l)
theorem clean_mem {l : List Id} {x : Id} : x ∈ cleanP l ↔ x ∈ l := by unfold cleanP; rw [sortD_mem, mem_setOf]
theorem clean_rises (l : List Id) : Rises (cleanP l) := sortD_rises (setOf_nodup l)
theorem clean_len (l : List Id) : (cleanP l).length ≤ l.length := by unfold cleanP; rw [sortD_len]; exact setOf_len l
theorem clean_congr {l m : List Id} (h : ∀ x, x ∈ l ↔ x ∈ m) : cleanP l = cleanP m := rises_eq (clean_rises l) (clean_rises m) fun x => by rw [clean_mem, clean_mem, h]
theorem clean_self {l : List Id} (h : Rises l) : cleanP l = l := rises_eq (clean_rises l) h fun x => clean_mem
def sameP (a b : List Id) : Bool := decide ((∀ x ∈ a, x ∈ b) ∧ ∀ x ∈ b, x ∈ a)
theorem sameP_iff {a b : List Id} : sameP a b = true ↔ ∀ x, x ∈ a ↔ x ∈ b := by
  simp only [sameP, decide_eq_true_eq]
  exact ⟨fun h x => ⟨h.1 x, h.2 x⟩, fun h => ⟨fun x hx => (h x).1 hx, fun x hx => (h x).2 hx⟩⟩
def lessI (a b : Id) : Bool := decide (ordI a b < 0)
def rightI : List Id → Bool
  | [] => true
  | [_] => true
  | a :: b :: l => lessI a b && rightI (b :: l)
theorem rightI_iff : ∀ l : List Id, rightI l = true ↔ Rises l
  | [] => by simp [rightI, Rises]
  | [a] => by simp [rightI, Rises]
  | a :: b :: l => by
    have ih := rightI_iff (b :: l)
    simp only [rightI, Bool.and_eq_true, ih, lessI, decide_eq_true_eq]
    unfold Rises
    rw [List.pairwise_cons (a := a)]
    constructor
    · rintro ⟨h1, h2⟩
      refine ⟨fun x hx => ?_, h2⟩
      rcases List.mem_cons.1 hx with rfl | hx
      · exact h1
      · exact ordI_total.trans a b x h1 ((List.pairwise_cons.1 h2).1 x hx)
    · rintro ⟨h1, h2⟩
      exact ⟨h1 b List.mem_cons_self, h2⟩
def validI (x : Id) : Bool := decide (0 ≤ x.e) && decide (x.e ≤ 1048576) && (decide (0 ≤ x.n) && decide (x.n ≤ 31)) && (decide (0 ≤ x.k) && decide (x.k ≤ 1099511627776))
end Go.DS

/-
  Functions of the library over sets of instances, told by proofs of their own.
-/
namespace Go.DS
open Go
set_option linter.unusedVariables false
/-- What is asked of the order of instances. -/
structure OrdIOK (P : Program) (o : FuncId) : Prop where
  callee : calleeOK P o = true
  call : ∀ a b : Id, @CallOK ⟨true⟩ P o [.agg [num a.e, num a.n, num a.k], .agg [num b.e, num b.n, num b.k]] [] (num (ordI a b)) []
def keyD : DV → Id
  | .agg [.sc (.int _ a), .sc (.int _ b), .sc (.int _ c)] => ⟨a, b, c⟩
  | _ => ⟨0, 0, 0⟩
abbrev idDV (x : Id) : DV := .agg [num x.e, num x.n, num x.k]
structure KeysDOK (es : List (DV × DV)) (ks : List Id) : Prop where
  keys : es.map (·.1) = ks.map idDV
  nodup : ks.Nodup
  len : ks.length ≤ 1048576
/-- A set of instances, as a map. -/
def setD (l : List Id) : List (DV × DV) := l.map fun x => (.agg [num x.e, num x.n, num x.k], .sc (.bool true))
open Classical in
/-- slices.SortedFunc of maps.Keys, of instances. -/
noncomputable def keysDF (P : Program) (k1 o : FuncId) : List DV → DHeap → Option (DV × DHeap)
  | [.fn (.func a) [] [.ptr i 0], .fn (.func b) [] []], h => match h[i]? with
    | some (.cells [.mp j]) => match h[j]? with
      | some (.map es) => if a = k1 ∧ b = o ∧ KeysDOK es (es.map fun e => keyD e.1) ∧ OrdIOK P o then some (.list true 3 (idr (sortD (es.map fun e => keyD e.1))), h) else none
      | _ => none
    | _ => none
  | _, _ => none
open Classical in
/-- What a book has. -/
noncomputable def bidsF : List DV → DHeap → Option (DV × DHeap)
  | [.ptr i 0], h => match h[i]? with
    | some (.cells [_, _, _, .mp j]) => match h[j]? with
      | some (.map es) => if KeysDOK es (es.map fun e => keyD e.1) then some (.list true 3 (idr (sortD (es.map fun e => keyD e.1))), h) else none
      | _ => none
    | _ => none
  | _, _ => none
open Classical in
/-- maps.Equal of two sets. -/
noncomputable def equalDF : List DV → DHeap → Option (DV × DHeap)
  | [.mp i, .mp j], h => match h[i]?, h[j]? with
    | some (.map es), some (.map fs) => if KeysDOK es (es.map fun e => keyD e.1) ∧ KeysDOK fs (fs.map fun e => keyD e.1) ∧ es = setD (es.map fun e => keyD e.1) ∧ fs = setD (fs.map fun e => keyD e.1) then some (.sc (.bool (sameP (es.map fun e => keyD e.1) (fs.map fun e => keyD e.1))), h) else none
    | _, _ => none
  | _, _ => none
/-- What (*lead.Lead).Waiting comes to: whom the function fh does not tell, where fo does not tell that it is over. -/
def rowZ : List DV → Int
  | [.sc (.int .i64 x)] => x
  | _ => 0
open Classical in
noncomputable def waitF (P : Program) (C : Cfg) (fo fh : FuncId) : List DV → DHeap → Option (DV × DHeap)
  | [.ptr i 0], h => match h[i]? with
    | some (.cells (c0 :: .list ow 1 nodes :: cs)) =>
      if H : ∃ q : Bool × (Int → Bool), lim P C fo [.ptr i 0] h = some (.sc (.bool q.1), h) ∧ (∀ x, lim P C fh [.ptr i 0, .sc (.int .i64 x)] h = some (.sc (.bool (q.2 x)), h)) ∧ nodes.length ≤ 1048576 ∧ nodes = vnums (nodes.map rowZ) then
        some (if H.choose.1 then .list true 1 [] else .list true 1 (vnums ((nodes.map rowZ).filter fun x => !H.choose.2 x)), h)
      else none
    | _ => none
  | _, _ => none
theorem waitF_eq {P : Program} {C : Cfg} {fo fh : FuncId} {i : Nat} {h : DHeap} {c0 : DV} {ow : Bool} {l : List Int} {cs : List DV} (hi : h[i]? = some (.cells (c0 :: .list ow 1 (vnums l) :: cs))) {o : Bool} {p : Int → Bool}
    (h1 : lim P C fo [.ptr i 0] h = some (.sc (.bool o), h)) (h2 : ∀ x, lim P C fh [.ptr i 0, .sc (.int .i64 x)] h = some (.sc (.bool (p x)), h)) (hl : l.length ≤ 1048576) :
    waitF P C fo fh [.ptr i 0] h = some (if o then .list true 1 [] else .list true 1 (vnums (l.filter fun x => !p x)), h) := by
  have hm : (vnums l).map rowZ = l := by
    unfold vnums
    rw [List.map_map]
    exact List.map_id' l
  have H : ∃ q : Bool × (Int → Bool), lim P C fo [.ptr i 0] h = some (.sc (.bool q.1), h) ∧ (∀ x, lim P C fh [.ptr i 0, .sc (.int .i64 x)] h = some (.sc (.bool (q.2 x)), h)) ∧ (vnums l).length ≤ 1048576 ∧ vnums l = vnums ((vnums l).map rowZ) :=
    ⟨(o, p), h1, h2, by rw [vnums_len]; exact hl, by rw [hm]⟩
  have hc : H.choose = (o, p) := by
    obtain ⟨s1, s2, _⟩ := H.choose_spec
    have s1' := h1.symm.trans s1
    have e1 : H.choose.1 = o := by
      injection s1' with s1'
      injection s1' with s1'
      injection s1' with s1'
      injection s1' with s1'
      exact s1'.symm
    have e2 : H.choose.2 = p := by
      funext x
      have s2' := (h2 x).symm.trans (s2 x)
      injection s2' with s2'
      injection s2' with s2'
      injection s2' with s2'
      injection s2' with s2'
      exact s2'.symm
    exact Prod.ext e1 e2
  unfold waitF
  simp only [hi]
  rw [dif_pos H, hc, hm]
/-- ballot.Quorum: more than half of so many. -/
def quorumF : List DV → DHeap → Option (DV × DHeap)
  | [.sc (.int .i64 n)], h => if 0 ≤ n ∧ n ≤ 1099511627776 then some (.sc (.int .i64 (if n < 1 then 0 else n / 2 + 1)), h) else none
  | _, _ => none
open Classical in
/-- What a function that only looks comes to. -/
noncomputable def lookF (P : Program) (C : Cfg) (k : FuncId) (args : List DV) (h : DHeap) : Option (DV × DHeap) := match lim P C k args h with
  | some (r, h') => if h' = h then some (r, h) else none
  | none => none
theorem lookF_heap {P : Program} {C : Cfg} {k : FuncId} {args : List DV} {h : DHeap} {r : DV} {h' : DHeap} (hx : lookF P C k args h = some (r, h')) : h' = h ∧ lim P C k args h = some (r, h') := by
  unfold lookF at hx
  split at hx
  · rename_i r1 h1 e
    split at hx
    · rename_i e1
      cases hx
      subst e1
      exact ⟨rfl, e⟩
    · cases hx
  · cases hx
theorem lookF_eq {P : Program} {C : Cfg} {k : FuncId} {args : List DV} {h : DHeap} {r : DV} (hl : lim P C k args h = some (r, h)) : lookF P C k args h = some (r, h) := by
  unfold lookF
  rw [hl]
  exact if_pos rfl
end Go.DS

/-
  The settings of the evaluator for this program.
-/
namespace Go.DS
open Go Go.Proofs
set_option maxRecDepth 100000
set_option linter.unusedVariables false
def xferT : List (Nat × List Nat) := [(4, [6, 51]), (6, [40]), (7, [8]), (10, [8]), (13, [4, 40, 103]), (15, [2]), (17, [10]), (18, [4]), (30, [13]), (37, [2]), (38, [15]), (42, [15, 22]), (44, [17]), (46, [3]), (52, [3]), (55, [4]), (56, [3]), (59, [11, 28, 32, 41, 45]), (67, [4]), (73, [14]), (76, [11]), (78, [4]), (84, [8, 12])]
def escT : List (Nat × List Nat) := [(10, [15]), (17, [21]), (56, [4, 5]), (77, [1]), (81, [3]), (90, [9]), (91, [11])]
def keepT : List (Nat × List (Nat × List Nat)) := [
(2, [(0, [])]),
(3, [(0, [2, 4, 5, 7]), (1, [2, 4, 5, 7, 9]), (2, [2, 4, 5, 7, 9, 20]), (3, [4, 5, 7, 8]), (4, [2, 4, 5, 7, 9, 34]), (5, [4, 5, 7, 8]), (6, [2, 4, 5, 7, 9, 10]), (7, [2, 4, 5, 7, 9, 10, 45]), (8, [4, 5, 7, 8]), (9, [2, 4, 5, 7, 9, 10, 11]), (10, [2, 4, 5, 7, 9, 10, 11, 49]), (11, [2, 4, 5, 7, 9, 10, 11]), (12, [2, 4, 5, 7, 9, 10, 11, 12]), (13, [2, 4, 5, 7, 9, 10, 11, 12, 13]), (14, [2, 4, 5, 7, 9, 10, 11, 12, 13, 14]), (15, [2, 4, 5, 7, 9, 10, 11, 12, 13, 14, 72]), (16, [4, 5, 7, 8]), (17, [2, 4, 5, 7, 9, 10, 11, 87]), (18, [4, 5, 7, 8]), (19, [4, 5, 7, 9, 10, 15]), (20, [4, 5, 7, 9, 10, 15, 16]), (21, [4, 5, 7, 9, 10, 15, 16, 93]), (22, [4, 5, 7, 9, 10, 15, 16]), (23, [4, 5, 7, 9, 10, 15, 16, 102]), (24, [4, 5, 7, 8]), (25, [4, 5, 7, 9, 10, 15, 17]), (26, [4, 5, 7, 9, 10, 15, 17, 110]), (27, [4, 5, 7, 8]), (28, [4, 5, 7, 8]), (100010, [2, 4, 5, 7, 9, 10, 11]), (100021, [4, 5, 7, 9, 10, 15, 16])]),
(4, [(0, [0, 1, 5, 8, 10]), (1, [0, 1, 5, 7, 8, 10]), (2, [0, 1, 5, 7, 8, 10, 17]), (3, [5, 6, 8, 10]), (4, [0, 1, 5, 7, 8, 10, 43]), (5, [5, 6, 8, 10]), (6, [0, 1, 5, 7, 8, 10]), (7, [0, 1, 5, 7, 8, 9, 10]), (8, [0, 1, 5, 7, 8, 9, 10, 47]), (9, [0, 1, 5, 7, 8, 9, 10]), (10, [0, 1, 5, 7, 8, 9, 10]), (11, [0, 1, 5, 7, 8, 10]), (12, [0, 1, 5, 7, 8, 10, 11]), (13, [0, 1, 5, 7, 8, 10, 11, 63]), (14, [5, 6, 8, 10]), (15, [0, 1, 5, 7, 8, 10, 11, 12]), (16, [0, 1, 5, 7, 8, 10, 11, 12, 66]), (17, [0, 1, 5, 7, 8, 10, 11, 12]), (18, [0, 1, 5, 7, 8, 10, 11, 12]), (19, [0, 1, 5, 7, 8, 10, 11, 78]), (20, [5, 6, 8, 10]), (21, [0, 1, 5, 7, 8, 10, 11, 101]), (22, [5, 6, 8, 10]), (23, [0, 1, 5, 7, 8, 10, 11, 13]), (24, [0, 5, 7, 8, 10, 11, 13, 109]), (25, [5, 6, 8, 10]), (26, [0, 5, 7, 8, 10, 11, 111]), (27, [5, 6, 8, 10]), (28, [0, 5, 7, 8, 10, 11, 14]), (29, [0, 5, 7, 8, 10, 11, 14, 125]), (30, [0, 5, 7, 8, 10, 11, 14]), (31, [0, 5, 7, 8, 10, 11, 14]), (32, [5, 6, 8, 10]), (100008, [0, 1, 5, 7, 8, 9, 10]), (100016, [0, 1, 5, 7, 8, 10, 11, 12]), (100029, [0, 5, 7, 8, 10, 11, 14])]),
(5, [(0, [2, 3, 4, 11]), (1, [2, 3, 4, 7, 11]), (2, [2, 3, 4, 7, 11, 14]), (3, [3, 4, 6, 11]), (4, [2, 3, 4, 7, 11, 27]), (5, [3, 4, 6, 11]), (6, [2, 3, 4, 7, 8, 11]), (7, [2, 3, 4, 7, 8, 11, 42]), (8, [3, 4, 6, 11]), (9, [2, 3, 4, 7, 8, 9, 11]), (10, [2, 3, 4, 7, 8, 9, 10, 11]), (11, [2, 3, 4, 7, 8, 9, 10, 11, 46]), (12, [2, 3, 4, 7, 8, 9, 10, 11]), (13, [2, 3, 4, 7, 8, 9, 10, 11]), (14, [2, 3, 4, 7, 8, 9, 10, 11]), (15, [2, 3, 4, 7, 8, 9, 10, 11]), (16, [2, 3, 4, 7, 8, 9, 10, 11, 71]), (17, [2, 3, 4, 7, 8, 9, 10, 11, 105]), (18, [3, 4, 6, 11]), (19, [3, 4, 6, 11]), (100011, [2, 3, 4, 7, 8, 9, 10, 11])]),
(6, [(0, [0, 3, 5, 6, 10, 18]), (1, [0, 3, 5, 6, 9, 10, 18]), (2, [0, 3, 5, 6, 9, 10, 18, 21]), (3, [5, 6, 8, 10, 18]), (4, [0, 3, 5, 6, 9, 10, 18, 32]), (5, [5, 6, 8, 10, 18]), (6, [0, 3, 5, 6, 9, 10, 18]), (7, [0, 3, 5, 6, 9, 10, 11, 18]), (8, [0, 3, 5, 6, 9, 10, 11, 18, 36]), (9, [0, 3, 5, 6, 9, 10, 11, 18]), (10, [0, 3, 5, 6, 9, 10, 11, 18]), (11, [0, 3, 5, 6, 9, 10, 12, 18]), (12, [0, 3, 5, 6, 9, 10, 12, 18, 50]), (13, [5, 6, 8, 10, 18]), (14, [0, 3, 5, 6, 9, 10, 12, 13, 18]), (15, [0, 3, 5, 6, 9, 10, 12, 13, 14, 18]), (16, [0, 3, 5, 6, 9, 10, 12, 13, 14, 15, 18]), (17, [0, 3, 5, 6, 9, 10, 12, 13, 14, 15, 18, 56]), (18, [0, 3, 5, 6, 9, 10, 12, 13, 14, 15, 18]), (19, [0, 3, 5, 6, 9, 10, 12, 13, 14, 15, 16, 18]), (20, [0, 3, 5, 6, 9, 10, 12, 13, 14, 15, 16, 18, 69]), (21, [0, 3, 5, 6, 9, 10, 12, 13, 14, 15, 16, 17, 18]), (22, [0, 3, 5, 6, 9, 10, 12, 13, 14, 15, 16, 17, 18, 80]), (23, [0, 3, 5, 6, 9, 10, 12, 13, 14, 15, 17, 18]), (24, [0, 3, 5, 6, 9, 10, 12, 13, 14, 15, 17, 18]), (25, [0, 3, 5, 6, 9, 10, 12, 13, 14, 15, 18, 91]), (26, [5, 6, 8, 10, 18]), (27, [0, 5, 6, 9, 10, 12, 14, 18]), (28, [0, 5, 6, 9, 10, 12, 14, 18, 97]), (29, [5, 6, 8, 10, 18]), (30, [5, 6, 8, 10, 18]), (100008, [0, 3, 5, 6, 9, 10, 11, 18]), (100017, [0, 3, 5, 6, 9, 10, 12, 13, 14, 15, 18])]),
(7, [(0, [3, 4, 5, 6, 13]), (1, [3, 4, 5, 6, 9, 13]), (2, [3, 4, 5, 6, 9, 13, 16]), (3, [4, 5, 6, 8, 13]), (4, [3, 4, 5, 6, 9, 13, 36]), (5, [4, 5, 6, 8, 13]), (6, [3, 4, 5, 6, 9, 10, 13]), (7, [3, 4, 5, 6, 9, 10, 13, 47]), (8, [4, 5, 6, 8, 13]), (9, [3, 4, 5, 6, 9, 10, 11, 13]), (10, [4, 5, 6, 9, 10, 11, 12, 13]), (11, [4, 5, 6, 9, 10, 12, 13, 73]), (12, [4, 5, 6, 8, 13]), (13, [4, 5, 6, 9, 10, 12, 13]), (14, [4, 5, 6, 8, 13])]),
(8, [(0, [1, 2, 4]), (1, [1, 2, 4]), (2, [1, 2, 4]), (3, [1, 2, 3, 4]), (4, [1, 2, 3, 4, 18]), (5, [0, 1, 2, 4]), (6, [1, 2, 3, 4]), (7, [1, 2, 3, 4, 5]), (8, [1, 2, 3, 4, 5]), (9, [1, 2, 3, 4, 5, 6]), (10, [1, 2, 3, 4, 5, 6, 7]), (11, [1, 2, 3, 4, 5, 6, 7, 8]), (12, [0, 1, 2, 4])]),
(9, [(0, [0]), (1, [0, 3]), (2, [0, 3, 11]), (3, [0, 3]), (4, [0, 3, 52]), (5, [2]), (6, [2]), (100002, [0, 3])]),
(10, [(0, [1, 4, 6, 7, 15]), (1, [4, 6, 7, 8, 15])]),
(11, [(0, [0]), (1, [0, 4]), (2, [2]), (3, [2])]),
(12, [(0, [0]), (1, [2])]),
(13, [(0, [0, 3]), (1, [0, 3, 27]), (2, [3, 4]), (3, [0, 3, 28]), (4, [3, 4]), (5, [0, 3, 40]), (6, [0, 3]), (7, [3, 4]), (8, [0, 3, 5, 6]), (9, [0, 3, 5, 92]), (10, [3, 4]), (11, [0, 3, 5]), (12, [0, 3, 5]), (13, [0, 3, 113]), (14, [0, 3, 113, 114]), (15, [3, 4]), (16, [0, 3, 118]), (17, [3, 4]), (18, [3, 4])]),
(14, [(0, [1, 2]), (1, [2, 4])]),
(15, [(0, [0]), (1, [2])]),
(16, [(0, [1, 2]), (1, [1, 2, 5]), (2, [1, 2, 5, 6]), (3, [1, 2, 5, 6, 11]), (4, [1, 2, 5, 6]), (5, [1, 2, 5, 6, 20]), (6, [1, 2, 5, 6]), (7, [2, 4]), (100003, [1, 2, 5, 6])]),
(17, [(0, [1, 5, 7, 8, 9, 21]), (1, [5, 7, 8, 9, 10, 21])]),
(18, [(0, [2, 3]), (1, [2, 3, 4])]),
(19, [(0, [0, 2, 3]), (1, [0, 2, 3]), (2, [0, 2, 3, 30]), (3, [2, 3]), (4, [0, 2, 3, 30, 36]), (5, [2, 3]), (6, [0, 2, 3, 30, 39]), (7, [2, 3]), (8, [0, 2, 3, 30, 42]), (9, [2, 3]), (10, [0, 2, 3, 47]), (11, [2, 3]), (12, [2, 3])]),
(20, [(0, [1, 2]), (1, [1, 2])]),
(21, [(0, [1]), (1, [1, 3]), (2, [1, 2])]),
(22, [(0, [1]), (1, [1, 3]), (2, [1, 2])]),
(23, [(0, [2, 3]), (1, [2, 3, 9]), (2, [2, 3, 4]), (3, [2, 3, 4])]),
(24, [(0, [1, 2, 4]), (1, [2, 4])]),
(25, [(0, [2, 3, 4]), (1, [2, 3, 4, 12]), (2, [2, 3, 4]), (3, [2, 3, 4])]),
(26, [(0, [0, 2]), (1, [0, 2, 7]), (2, [2]), (3, [2])]),
(27, [(0, [1]), (1, [1, 3]), (2, [1, 2])]),
(28, [(0, [1, 2]), (1, [1, 2])]),
(29, [(0, [0]), (1, [2])]),
(30, [(0, [0, 1]), (1, [0, 1, 5]), (2, [0, 1, 5, 12]), (3, [4]), (4, [0, 1, 5, 6]), (5, [0, 1, 5, 6, 19]), (6, [0, 1, 5, 6]), (7, [0, 1, 5, 6, 7]), (8, [0, 1, 5, 6, 7, 29]), (9, [0, 1, 5, 6]), (10, [0, 1, 5, 6]), (11, [0, 5]), (12, [4]), (100005, [0, 1, 5, 6])]),
(31, [(0, [0]), (1, [0, 4]), (2, [2]), (3, [2])]),
(32, [(0, [0, 3]), (1, [3, 4])]),
(33, [(0, [1, 2]), (1, [2, 4])]),
(34, [(0, [0, 1, 6, 7]), (1, [6, 7]), (2, [6, 7, 8])]),
(35, [(0, [0]), (1, [4]), (2, [4, 5]), (3, [2, 3]), (4, [4, 7]), (5, [2, 3]), (6, [9]), (7, [2, 3]), (8, [2, 3])]),
(36, [(0, [1, 2]), (1, [1, 2])]),
(37, [(0, [1]), (1, [1, 3]), (2, [1, 15]), (3, [1, 2]), (4, [1, 2])]),
(38, [(0, [0, 5]), (1, [0, 3, 5]), (2, [0, 3, 5, 9, 10, 11]), (3, [0, 3, 5, 9, 10, 11, 12]), (4, [0, 3, 5, 9, 10, 11]), (5, [0, 3, 5, 9, 10, 11]), (6, [0, 3, 5, 9, 10, 11]), (7, [2, 5]), (100003, [0, 3, 5, 9, 10, 11])]),
(39, [(0, [0, 3]), (1, [0, 3, 7]), (2, [2, 3]), (3, [0, 3, 4]), (4, [0, 3, 13]), (5, [2, 3]), (6, [0, 3, 20]), (7, [2, 3]), (8, [2, 3])]),
(40, [(0, [0, 1]), (1, [0, 1, 5]), (2, [0, 1, 5, 9]), (3, [0, 1, 5]), (4, [0, 1, 5, 17]), (5, [4]), (6, [4]), (100002, [0, 1, 5])]),
(41, [(0, [0, 2]), (1, [0, 2, 5]), (2, [2]), (3, [2])]),
(42, [(0, [0, 5]), (1, [0, 3, 5]), (2, [3, 5, 9, 10, 11]), (3, [3, 5, 9, 10, 11, 12]), (4, [3, 5, 9, 10, 11]), (5, [3, 5, 9, 10, 11]), (6, [3, 5, 9, 10, 11]), (7, [2, 5]), (100003, [3, 5, 9, 10, 11])]),
(43, [(0, [0, 1]), (1, [0, 1, 10]), (2, [4]), (3, [0, 1, 5]), (4, [0, 1, 5, 14]), (5, [0, 1, 5]), (6, [0, 1, 5, 25]), (7, [4]), (8, [4]), (100004, [0, 1, 5])]),
(44, [(0, [0]), (1, [0, 3]), (2, [0, 3, 4]), (3, [0, 3, 4, 8]), (4, [0, 3, 4]), (5, [0, 3, 4]), (6, [2]), (100003, [0, 3, 4])]),
(45, [(0, [0, 1]), (1, [4])]),
(46, [(0, [1]), (1, [1, 3]), (2, [1, 3, 4]), (3, [1, 3, 4, 27]), (4, [1, 3, 4]), (5, [1, 3, 4]), (6, [1, 3, 5]), (7, [1, 3, 5, 55]), (8, [1, 3, 5]), (9, [1, 3, 5]), (10, [1, 3, 5, 6]), (11, [1, 3, 5, 6, 90]), (12, [1, 3, 5, 6]), (13, [1, 3, 5, 6]), (14, [1, 2]), (100003, [1, 3, 4]), (100007, [1, 3, 5]), (100011, [1, 3, 5, 6])]),
(47, [(0, [0, 1]), (1, [0, 1, 7, 8]), (2, [0, 1, 7, 8, 9]), (3, [0, 1, 5, 7, 8]), (4, [0, 1, 5, 7, 8, 16]), (5, [4]), (6, [0, 1, 7, 8]), (7, [4]), (100002, [0, 1, 7, 8])]),
(48, [(0, [0, 1]), (1, [4])]),
(49, [(0, [1, 2]), (1, [2, 3])]),
(50, [(0, [0, 1]), (1, [4])]),
(51, [(0, [0]), (1, [0, 4]), (2, [2]), (3, [2])]),
(52, [(0, [1, 2]), (1, [2, 3])]),
(53, [(0, [2, 3]), (1, [2, 3, 4])]),
(54, [(0, [0, 1]), (1, [4])]),
(55, [(0, [1, 2]), (1, [2, 4])]),
(56, [(0, [0, 2, 4, 5, 8]), (1, [0, 2, 4, 5, 8]), (2, [0, 2, 4, 5, 8]), (3, [0, 2, 4, 5, 6, 8]), (4, [2, 4, 5, 6, 8, 13, 14, 15]), (5, [2, 4, 5, 6, 8, 13, 14, 15, 16]), (6, [2, 4, 5, 6, 8, 13, 14, 15]), (7, [2, 4, 5, 6, 8, 13, 14, 15, 28]), (8, [2, 4, 5, 6, 8, 13, 14, 15]), (9, [2, 4, 5, 6, 8, 13, 14, 15]), (10, [2, 3, 4, 5, 8]), (100005, [2, 4, 5, 6, 8, 13, 14, 15])]),
(57, [(0, [1, 3]), (1, [1, 3]), (2, [1, 3, 4]), (3, [1, 2, 3])]),
(58, [(0, [1, 2, 4, 6]), (1, [2, 4, 6, 7, 8, 9]), (2, [2, 4, 6, 7, 8, 9, 10]), (3, [2, 4, 6, 7, 8, 9]), (4, [2, 4, 6, 7, 8, 9]), (5, [2, 4, 6, 7, 8, 9]), (6, [2, 4, 6]), (100002, [2, 4, 6, 7, 8, 9])]),
(59, [(0, [0, 3]), (1, [0, 3, 10]), (2, [3, 4]), (3, [0, 3, 5]), (4, [0, 3, 5, 6]), (5, [0, 3, 5, 6, 7]), (6, [0, 3, 5, 6, 7, 15]), (7, [0, 3, 5, 6, 7]), (8, [0, 3, 5, 6, 7, 27]), (9, [0, 3, 5, 7]), (10, [0, 3, 5, 6, 7]), (11, [0, 3, 5, 6, 7]), (12, [3, 5, 40]), (13, [3, 5]), (14, [3, 4]), (100006, [0, 3, 5, 6, 7])]),
(60, [(0, [0, 1]), (1, [0, 1, 7, 8]), (2, [0, 1, 7, 8, 9]), (3, [0, 1, 5, 7, 8]), (4, [0, 1, 5, 7, 8, 16]), (5, [4]), (6, [0, 1, 7, 8]), (7, [4]), (100002, [0, 1, 7, 8])]),
(61, [(0, [0, 1]), (1, [0, 1, 7, 8]), (2, [0, 1, 7, 8, 9]), (3, [0, 1, 5, 7, 8]), (4, [0, 1, 5, 7, 8, 16]), (5, [4]), (6, [0, 1, 7, 8]), (7, [4]), (100002, [0, 1, 7, 8])]),
(62, [(0, [0, 1]), (1, [4])]),
(63, [(0, [0, 1]), (1, [0, 1, 7, 8]), (2, [0, 1, 7, 8, 9]), (3, [0, 1, 5, 7, 8]), (4, [0, 1, 5, 7, 8, 16]), (5, [4]), (6, [0, 1, 7, 8]), (7, [4]), (100002, [0, 1, 7, 8])]),
(64, [(0, [1, 2]), (1, [1, 2, 5]), (2, [1, 2, 5, 9, 10, 11]), (3, [1, 2, 5, 9, 10, 11, 12]), (4, [1, 2, 5, 7, 9, 10, 11]), (5, [1, 2, 5, 9, 10, 11, 17]), (6, [1, 2, 5, 9, 10, 11]), (7, [1, 2, 5, 9, 10, 11]), (8, [2, 4]), (100003, [1, 2, 5, 9, 10, 11])]),
(65, [(0, [0]), (1, [0, 4]), (2, [2]), (3, [2])]),
(66, [(0, [1, 2, 3]), (1, [3, 4])]),
(67, [(0, [1, 2, 3]), (1, [3, 4])]),
(68, [(0, [0, 4]), (1, [0, 4, 5, 6, 7]), (2, [0, 4, 5, 6, 7, 8]), (3, [0, 4, 5, 6, 7]), (4, [0, 4, 5, 6, 7, 16]), (5, [2, 4]), (6, [0, 4, 5, 6, 7]), (7, [2, 4]), (100002, [0, 4, 5, 6, 7])]),
(69, [(0, [2, 3, 4]), (1, [2, 3, 4])]),
(70, [(0, [0, 3]), (1, [0, 3, 5]), (2, [0, 3, 5, 9]), (3, [0, 3, 5]), (4, [0, 3, 5, 17]), (5, [3, 4]), (6, [3, 4]), (100002, [0, 3, 5])]),
(71, [(0, [2, 3]), (1, [2, 3, 9]), (2, [2, 3, 4]), (3, [2, 3, 19]), (4, [2, 3, 4]), (5, [2, 3, 4])]),
(72, [(0, [0, 1, 5]), (1, [0, 1, 5, 13]), (2, [4, 5]), (3, [1, 5, 15]), (4, [1, 5, 15, 17]), (5, [1, 5, 6, 15]), (6, [1, 5, 6, 7, 8, 15]), (7, [1, 5, 15, 33]), (8, [4, 5]), (9, [4, 5]), (100004, [1, 5, 15])]),
(73, [(0, [0, 7]), (1, [0, 3, 7]), (2, [3, 7, 9, 10, 11]), (3, [3, 7, 9, 10, 11, 12]), (4, [3, 5, 7, 9, 10, 11]), (5, [3, 7, 9, 10, 11, 15, 16, 17]), (6, [3, 7, 9, 10, 11, 15, 16, 17, 18]), (7, [3, 7, 9, 10, 11, 15, 16, 17]), (8, [3, 7, 9, 10, 11, 15, 16, 17]), (9, [3, 7, 9, 10, 11, 15, 16, 17]), (10, [3, 7, 9, 10, 11]), (11, [2, 7]), (100003, [3, 7, 9, 10, 11]), (100006, [3, 7, 9, 10, 11, 15, 16, 17])]),
(74, [(0, [0, 1]), (1, [4])]),
(75, [(0, [0]), (1, [2])]),
(76, [(0, [0, 1]), (1, [1, 5]), (2, [5]), (3, [4])]),
(77, [(0, [1]), (1, [1, 2])]),
(78, [(0, [2, 3]), (1, [2, 3, 4])]),
(79, [(0, [0]), (1, [2])]),
(80, [(0, [0, 1, 4]), (1, [])]),
(81, [(0, [0, 3, 5]), (1, [0, 3, 5, 7]), (2, [0, 3, 5]), (3, [0, 3, 5, 13]), (100001, [0, 3, 5])]),
(82, [(0, [0]), (1, [0, 3]), (2, [3, 6, 7, 8]), (3, [3, 6, 7, 8, 9]), (4, [3, 5, 6, 7, 8]), (5, [3, 5, 6, 7, 8, 14]), (6, [2]), (7, [3, 6, 7, 8]), (8, [2]), (100003, [3, 6, 7, 8])]),
(83, [(0, [0, 1]), (1, [0, 1, 5]), (2, [0, 1, 5, 6]), (3, [0, 1, 6, 11]), (4, [12]), (5, [4]), (6, [4]), (7, [0, 1, 13]), (8, [4]), (9, [0, 1, 16]), (10, [4]), (11, [19]), (12, [4]), (13, [4])]),
(84, [(0, [1, 2, 5]), (1, [2, 5]), (4, [2, 4, 5])]),
(85, [(0, [0, 1, 2, 3, 4, 10]), (1, [0, 1, 2, 3, 4, 10, 11]), (2, [0, 1, 2, 3, 4, 10, 11, 12]), (3, [0, 1, 2, 3, 4, 10, 11, 12, 25]), (4, []), (5, [0, 1, 2, 3, 4, 10, 11, 12, 32]), (6, []), (7, [0, 1, 2, 3, 4, 10, 11, 12, 39]), (8, [0, 1, 2, 3, 4, 10, 11, 12]), (9, [0, 1, 2, 3, 4, 10, 11, 12]), (10, [0, 1, 2, 3, 4, 10, 11, 12, 13, 14]), (11, [0, 1, 2, 3, 4, 10, 11, 12, 13, 14, 56]), (12, [0, 1, 2, 3, 4, 10, 11, 12, 13]), (13, [0, 1, 2, 3, 4, 10, 11, 12, 13]), (14, [0, 1, 2, 3, 4, 10, 11, 12, 13, 14]), (15, [0, 1, 2, 3, 4, 10, 11, 12, 13, 75]), (16, [0, 1, 2, 3, 4, 10, 11, 12, 13, 80]), (17, [0, 1, 2, 3, 4, 10, 11, 12, 13, 97]), (18, [0, 2, 3, 4, 10, 11, 15]), (19, [0, 1, 2, 3, 4, 10, 11]), (20, [0, 1, 2, 3, 4, 12, 16, 17]), (21, [0, 1, 2, 3, 4, 11, 12, 16]), (22, [0, 1, 2, 3, 4, 11, 12, 16, 18, 19]), (23, [0, 1, 2, 3, 4, 11, 16, 18, 19, 20]), (24, [0, 1, 2, 3, 4, 11, 16, 18, 19, 20, 125]), (25, [0, 1, 2, 3, 4, 10, 11, 16]), (26, [0, 2, 3, 4, 10, 11, 16]), (27, [0, 1, 2, 3, 4, 10, 11]), (28, [0, 1, 2, 3, 4, 10, 11, 16]), (29, [0, 1, 3, 4, 10, 11, 16]), (30, [0, 1, 2, 3, 4, 10, 11]), (100002, [0, 1, 2, 3, 4, 10, 11])]),
(86, [(0, [0]), (1, [2]), (2, [2])]),
(87, [(0, [0]), (1, [2])]),
(88, [(0, [0, 1, 2, 3, 8]), (1, [0, 1, 2, 3, 8, 14]), (2, [0, 1, 2, 3, 8]), (3, [0, 1, 2, 3, 8, 9]), (4, [0, 1, 2, 3, 8, 9, 34]), (5, [0, 1, 2, 3, 8, 9]), (6, [0, 1, 2, 3, 8, 9]), (100001, [0, 1, 2, 3, 8]), (100004, [0, 1, 2, 3, 8, 9])]),
(89, [(0, [0, 1, 2, 3, 8]), (1, [0, 1, 2, 3, 8, 9]), (2, [0, 3, 8, 9, 10]), (3, [0, 3, 8, 9, 10, 11]), (4, [0, 3, 8, 9, 10, 11, 21]), (5, [0, 3, 8, 9, 10, 11]), (6, [0, 3, 8, 9, 10, 11]), (7, [0, 3, 8, 9, 12]), (8, [0, 3, 8, 9, 12, 33]), (9, [0, 3, 8, 9, 12]), (10, [0, 3, 8, 9, 12]), (11, [0, 3, 8, 9, 12]), (100004, [0, 3, 8, 9, 10, 11]), (100008, [0, 3, 8, 9, 12])]),
(90, [(0, [0, 1, 8, 9]), (1, [0, 1, 8, 9, 17]), (2, [0, 1, 8, 9]), (3, [0, 1, 8, 9, 10]), (4, [0, 1, 8, 9, 10, 11]), (5, [0, 1, 8, 9, 10, 11, 35]), (6, [0, 1, 8, 9, 10, 11]), (7, [0, 1, 8, 9, 10, 11, 12]), (8, [0, 1, 8, 9, 10, 11, 12, 45]), (9, [0, 1, 8, 9, 10, 11, 12]), (10, [0, 1, 8, 9, 10, 11]), (100005, [0, 1, 8, 9, 10, 11])]),
(91, [(0, [0, 1, 2, 3, 11]), (1, [0, 1, 3, 10, 11]), (2, [0, 1, 3, 10, 11]), (3, [0, 1, 3, 10, 11, 12]), (4, [0, 1, 3, 10, 11, 12, 13]), (5, [0, 3, 10, 11, 12, 13, 14]), (6, [0, 3, 10, 11, 12, 13, 14, 34]), (7, [0, 3, 11, 12, 13, 14, 36]), (8, [0, 3, 11, 12, 13, 14]), (9, [0, 3, 11, 12, 13, 14]), (10, [0, 3, 11, 12, 13, 14]), (11, [11, 13]), (12, [11, 13, 55]), (13, [8, 9, 11]), (14, [11, 13, 55, 57]), (15, [8, 9, 11]), (16, [11, 13, 60]), (17, [8, 9, 11])]),
(92, [(0, [0, 2, 8]), (1, [0, 8, 9]), (2, [0, 8, 9, 15]), (3, [0, 8, 9]), (4, [0, 8, 9]), (5, [0, 8, 9]), (100002, [0, 8, 9])]),
(93, [(0, [0, 1, 2, 3]), (1, [0, 1, 2, 3, 9]), (2, [0, 1, 2, 3, 9, 10]), (3, [0, 1, 2, 3, 9, 10, 16]), (4, [0, 1, 2, 3, 9, 10]), (5, [0, 1, 2, 3, 9, 10, 36]), (6, [0, 1, 2, 3, 9, 10]), (7, [0, 1, 2, 3, 9, 10, 41]), (8, [8]), (9, [0, 1, 2, 3, 9, 10, 45]), (10, [8]), (11, [0, 1, 2, 3, 9, 10]), (12, [0, 1, 2, 3, 9, 10, 65]), (13, [0, 1, 2, 3, 9, 10, 11]), (14, [0, 1, 2, 3, 9, 10, 11, 69]), (15, [0, 1, 2, 3, 9, 10, 11]), (16, [0, 1, 2, 3, 9, 10, 11, 84]), (17, [0, 1, 2, 3, 9, 10, 11]), (18, [0, 1, 2, 3, 9, 10, 104]), (19, [0, 1, 2, 3, 9, 10, 12]), (20, [0, 1, 2, 3, 9, 10, 12, 109]), (21, [0, 1, 2, 3, 9, 10, 12]), (22, [0, 1, 2, 3, 9, 10, 12, 124]), (23, [0, 1, 2, 3, 9, 10, 12]), (24, [8]), (100003, [0, 1, 2, 3, 9, 10]), (100005, [0, 1, 2, 3, 9, 10]), (100014, [0, 1, 2, 3, 9, 10, 11]), (100020, [0, 1, 2, 3, 9, 10, 12])]),
(94, [(0, [0, 1, 2, 3, 4]), (1, [0, 1, 2, 4]), (2, [0, 1, 4, 11, 12]), (3, [0, 1, 4, 11, 12, 47]), (4, [0, 1, 4, 11, 12]), (5, [0, 1, 4, 11, 12, 65]), (6, [0, 1, 4, 11, 12]), (7, [0, 1, 4, 11, 12, 70]), (8, [0, 1, 4, 11, 12]), (9, [0, 1, 4, 11, 12]), (10, [0, 1, 4, 11, 12]), (11, [10]), (100000, [0, 1, 4, 11, 12]), (100003, [0, 1, 4, 11, 12]), (100005, [0, 1, 4, 11, 12])]),
(95, [(0, [0, 1, 2, 3, 4]), (1, [0, 1, 2, 4]), (2, [0, 1, 4, 12, 13]), (3, [0, 1, 4, 12, 13, 47]), (4, [0, 1, 4, 12, 13]), (5, [0, 1, 4, 12, 13, 66]), (6, [0, 1, 4, 12, 13]), (7, [0, 1, 4, 12, 13, 71]), (8, [13]), (9, [10, 11]), (10, [0, 1, 4, 12, 13]), (11, [0, 1, 4, 12, 13]), (12, [0, 1, 4, 12, 13]), (13, [0, 1, 4, 12, 13, 120]), (14, [0, 1, 4, 12, 13]), (15, [0, 1, 4, 12, 13, 139]), (16, [0, 1, 4, 12, 13]), (17, [0, 1, 4, 12, 13, 144]), (18, [0, 1, 4, 12, 13]), (19, [0, 1, 4, 12, 13]), (20, [0, 1, 4, 12, 13]), (21, [13]), (22, [10, 11]), (100000, [0, 1, 4, 12, 13]), (100003, [0, 1, 4, 12, 13]), (100005, [0, 1, 4, 12, 13]), (100013, [0, 1, 4, 12, 13]), (100015, [0, 1, 4, 12, 13])]),
(96, [(0, [0, 2]), (1, [0, 2, 4]), (2, [0]), (3, [0, 2]), (4, [0, 2, 8]), (5, [0, 2]), (6, [0, 2]), (7, [2])]),
(97, [(0, [0, 2]), (1, [0, 2, 4]), (2, [0]), (3, [0, 2]), (4, [0, 2, 8]), (5, [0, 2]), (6, [0, 2]), (7, [0, 2, 14]), (8, [0, 2]), (9, [0, 2]), (10, [2])]),
(98, [(0, [0, 2, 3, 4, 10]), (1, [0, 2, 3, 4, 10, 11]), (2, [0, 2, 3, 4, 10, 11, 18]), (3, [0, 2, 3, 4, 10, 11, 40]), (4, [0, 2, 3, 4, 10, 11]), (5, [0, 2, 3, 4, 10, 11, 58]), (6, [0, 2, 3, 4, 11]), (7, [0, 2, 3, 4, 10]), (100001, [0, 2, 3, 4, 10])]),
(99, [(0, [0]), (1, [2])]),
(100, [(0, [0]), (1, [0]), (2, [0]), (3, [0]), (4, [2])]),
(101, [(0, [0, 1, 2, 3]), (1, [8])]),
(102, [(0, [0, 1, 2, 3, 4, 5]), (1, [0, 1, 2, 3, 4, 5]), (2, [0, 1, 2, 4, 5]), (3, [2]), (4, [12])]),
(103, [(0, [0, 1, 2, 3, 4]), (1, [1, 2, 3, 22]), (2, [1, 2]), (3, [10, 11]), (4, [10, 11])])]
def rawT : List (Nat × List (Nat × List Nat)) := [(4, [(8, [0])]), (6, [(10, [0])]), (10, [(14, [22])]), (17, [(20, [22])])]
/-- Functions that look into the heap that is there. -/
def onHeap : List FuncId := [
  
  73,
  75,
  77,
  17,
  10,
  12,
  26,
  29,
  32,
  19,
  34,
  38,
  42,
  37,
  52,
  56,
  66,
  57,
  67,
  39,
  13,
  15,
  48,
  60,
  54,
  63,
  1000000]
/-- Functions behind which what they made is forgotten. -/
def gcs : List FuncId := [
  56,
  1000000]
/-- The settings with no function of the library at all. -/
noncomputable def cfg0 : Cfg where
  pure f := !(onHeap.contains f)
  esc f s := match escT.lookup f with | some l => l.contains s | none => false
  raw f s := match rawT.lookup f with | some l => (l.lookup s).getD [] | none => []
  xfer f s := match xferT.lookup f with | some l => l.contains s | none => false
  keep f id := match keepT.lookup f with | some l => l.lookup id | none => none
  ext := fun _ => none
  gc f := gcs.contains f
/-- Functions of the library, by their contracts. -/
noncomputable def extF (f : FuncId) : Option (List DV → DHeap → Option (DV × DHeap)) :=
  if f = 76 then some (keysDF Try.prog 81 78) else
  if f = 72 then some equalDF else
  if f = 31 then some (cloneLF 1) else
  if f = 51 then some (cloneLF 3) else
  if f = 65 then some quorumF else
  if f = 42 then some (lookF Try.prog cfg0 42) else
  if f = 11 then some (waitF Try.prog cfg0 29 32) else
  none
noncomputable def cfg : Cfg where
  pure f := !(onHeap.contains f)
  esc f s := match escT.lookup f with | some l => l.contains s | none => false
  raw f s := match rawT.lookup f with | some l => (l.lookup s).getD [] | none => []
  xfer f s := match xferT.lookup f with | some l => l.contains s | none => false
  keep f id := match keepT.lookup f with | some l => l.lookup id | none => none
  ext := extF
  gc f := gcs.contains f
  look f := f == 42
  lookOK := fun k hk => by have e : k = 42 := (by simpa using hk); subst e; exact ⟨_, rfl, fun _ _ _ _ h => (lookF_heap h).1⟩
/-- The settings with those functions of the library alone that draw nothing back. -/
def extA (f : FuncId) : Option (List DV → DHeap → Option (DV × DHeap)) :=
  none
noncomputable def cfgA : Cfg := { cfg with ext := extA, look := fun _ => false, lookOK := fun _ hk => Bool.noConfusion hk }
end Go.DS

/-
  Walks: paths.name, paths.split, strings.CutPrefix.
-/
namespace Go.DS
open Go Go.Proofs
set_option maxRecDepth 100000
set_option linter.unusedVariables false
set_option linter.unusedSimpArgs false
variable {h : DHeap}
theorem isPrefixOf_take (u s : Str) : u.isPrefixOf s = decide (s.take u.length = u) := by
  induction u generalizing s with
  | nil => simp
  | cons c u ih =>
    cases s with
    | nil => simp
    | cons d s => simp only [List.isPrefixOf, List.length_cons, List.take_succ_cons, List.cons.injEq, Bool.decide_and, ih]; congr 1; rw [Bool.eq_iff_iff, beq_iff_eq, decide_eq_true_iff]; exact eq_comm
theorem runP_nil (l : List Str) : runP [] l = if l = [] then none else some l := by unfold runP; rfl
theorem runP_cons (c : UInt8) (r : Str) (l : List Str) : runP (c :: r) l = if c ≠ 47 then none else if 8 ≤ l.length ∨ nameOK (seg r) = false then none else runP (aft r) (l ++ [seg r]) := by rw [runP]
/-- What split hands back. -/
def splitV (p : Str) : DV := match parse p with
  | some l => .tup [.list true 1 (ts l), .sc (.bool true)]
  | none => .tup [.list true 1 (ts []), .sc (.bool false)]
end Go.DS

/-
  Walks: slices.Equal, slices.CompareFunc, slices.ContainsFunc, strings.Compare, strings.Join, paths.Of.
-/
namespace Go.DS
open Go Go.Proofs
set_option maxRecDepth 100000
set_option linter.unusedVariables false
set_option linter.unusedSimpArgs false
variable {h : DHeap}
/-- A list of texts, as a value. -/
abbrev vts (own : Bool) (l : List Str) : DV := .list own 1 (ts l)
abbrev vs (s : Str) : DV := .sc (.string (mkB s))
abbrev vi (n : Int) : DV := .sc (.int .i64 n)
abbrev vb (b : Bool) : DV := .sc (.bool b)

def idxF {α : Type} (F : α → Bool) (l : List α) : Int := match l.findIdx? F with
  | some i => i
  | none => -1
theorem idxF_ge {α : Type} (F : α → Bool) (l : List α) : decide (0 ≤ idxF F l) = l.any F := by
  unfold idxF
  cases hf : l.findIdx? F with
  | none =>
    rw [List.findIdx?_eq_none_iff] at hf
    have : l.any F = false := by rw [List.any_eq_false]; simpa using hf
    simp [this]
  | some i =>
    have : l.any F = true := by
      rw [List.any_eq_true]
      obtain ⟨h1, h2, _⟩ := List.findIdx?_eq_some_iff_getElem.1 hf
      exact ⟨_, List.getElem_mem h1, h2⟩
    simp [this]
/-- The path of names. -/
def okL (l : List Str) : Bool := decide (l.length ≤ 8) && l.all nameOK
theorem join_le (l : List Str) (h : ∀ s ∈ l, s.length ≤ 16) : (Lib.join l [47]).length ≤ 17 * l.length := by
  unfold Lib.join
  induction l with
  | nil => simp [List.intercalate]
  | cons a l ih =>
    have h1 := h a List.mem_cons_self
    have h2 := ih fun s hs => h s (List.mem_cons_of_mem _ hs)
    cases l with
    | nil => simp [List.intercalate]; omega
    | cons b l =>
      simp only [List.intercalate, List.intersperse_cons_cons, List.flatten_cons, List.length_append, List.length_cons, List.length_nil] at h2 ⊢
      omega
theorem nameOK_le {s : Str} (h : nameOK s = true) : s.length ≤ 16 := by
  simp [nameOK] at h; omega
def ofV (l : List Str) : DV := if okL l = true then .tup [vs (pathOf l), vi 0] else .tup [vs [], vi 1]
end Go.DS

/-
  Paths: what a path's text is to its names.
-/
namespace Go.DS
open Go

theorem seg_not {r : Str} : ∀ c ∈ seg r, c ≠ 47 := by
  intro c hc
  have := List.all_takeWhile (p := fun x : UInt8 => decide (x ≠ 47)) (l := r)
  rw [List.all_eq_true] at this
  simpa using this c hc
theorem aft_cases (r : Str) : aft r = [] ∨ ∃ r', aft r = 47 :: r' := by
  cases h : aft r with
  | nil => exact .inl rfl
  | cons c r' =>
    right
    have := List.head?_dropWhile_not (p := fun x : UInt8 => decide (x ≠ 47)) (l := r)
    unfold aft at h
    rw [h] at this
    simp at this
    exact ⟨r', by rw [this]⟩
/-- What is between the slashes. -/
def sp (r : Str) : List Str := match h : aft r with
  | [] => [r]
  | _ :: r' => seg r :: sp r'
termination_by r.length
decreasing_by have := aft_le r; rw [h] at this; simp at this; omega
theorem sp_nil {r : Str} (h : aft r = []) : sp r = [r] := by
  unfold sp; split <;> simp_all
theorem sp_cons {r r' : Str} {c : UInt8} (h : aft r = c :: r') : sp r = seg r :: sp r' := by
  rw [sp]; split <;> simp_all
theorem sp_ne (r : Str) : sp r ≠ [] := by
  rcases aft_cases r with h | ⟨r', h⟩
  · rw [sp_nil h]; simp
  · rw [sp_cons h]; simp
theorem seg_all {r : Str} (h : aft r = []) : seg r = r := by
  have := seg_aft r; rwa [h, List.append_nil] at this
theorem join_cons (a b : Str) (l : List Str) : Lib.join (a :: b :: l) [47] = a ++ 47 :: Lib.join (b :: l) [47] := by
  simp [Lib.join, List.intercalate, List.intersperse_cons_cons]
theorem join_one (a : Str) : Lib.join [a] [47] = a := by simp [Lib.join, List.intercalate]
theorem join_nil : Lib.join [] [47] = [] := by simp [Lib.join, List.intercalate]
theorem join_sp (r : Str) : Lib.join (sp r) [47] = r := by
  rcases aft_cases r with h | ⟨r', h⟩
  · rw [sp_nil h, join_one]
  · rw [sp_cons h]
    have ih := join_sp r'
    have hse := seg_aft r
    cases hs : sp r' with
    | nil => exact absurd hs (sp_ne r')
    | cons b l => rw [join_cons, ← hs, ih, ← h, hse]
termination_by r.length
decreasing_by have := aft_le r; rw [h] at this; simp at this; omega
theorem seg_app {a r : Str} (h : ∀ c ∈ a, c ≠ 47) : seg (a ++ 47 :: r) = a ∧ aft (a ++ 47 :: r) = 47 :: r := by
  unfold seg aft
  constructor
  · rw [List.takeWhile_append_of_pos (by simpa using h)]; simp
  · rw [List.dropWhile_append_of_pos (by simpa using h)]; simp
theorem aft_none {a : Str} (h : ∀ c ∈ a, c ≠ 47) : aft a = [] := by
  unfold aft
  induction a with
  | nil => rfl
  | cons c a ih =>
    rw [List.dropWhile_cons_of_pos (by simpa using h c List.mem_cons_self)]
    exact ih fun d hd => h d (List.mem_cons_of_mem _ hd)
theorem sp_join : ∀ (l : List Str), l ≠ [] → (∀ s ∈ l, ∀ c ∈ s, c ≠ 47) → sp (Lib.join l [47]) = l
  | [], h, _ => absurd rfl h
  | [a], _, h => by rw [join_one, sp_nil (aft_none (h a List.mem_cons_self))]
  | a :: b :: l, _, h => by
    have ha := seg_app (a := a) (r := Lib.join (b :: l) [47]) (h a List.mem_cons_self)
    rw [join_cons, sp_cons ha.2, ha.1, sp_join (b :: l) (by simp) fun s hs => h s (List.mem_cons_of_mem _ hs)]
theorem nameOK_not {s : Str} (h : nameOK s = true) : ∀ c ∈ s, c ≠ 47 := by
  intro c hc e
  simp only [nameOK, Bool.and_eq_true, List.all_eq_true] at h
  have := h.1 c hc
  rw [okc_iff] at this
  subst e
  simp at this

theorem runP_sp (r : Str) (l : List Str) : runP (47 :: r) l = if (l ++ sp r).length ≤ 8 ∧ (sp r).all nameOK = true then some (l ++ sp r) else none := by
  rw [runP_cons]
  simp only [ne_eq, not_true_eq_false, if_false]
  rcases aft_cases r with h | ⟨r', h⟩
  · rw [h, runP_nil, sp_nil h, seg_all h]
    simp only [List.length_append, List.length_cons, List.length_nil, List.all_cons, List.all_nil, Bool.and_true]
    by_cases h1 : 8 ≤ l.length ∨ nameOK r = false
    · rw [if_pos h1, if_neg]
      rcases h1 with h1 | h1
      · omega
      · simp [h1]
    · rw [if_neg h1, if_neg (by simp), if_pos]
      simp only [not_or, Bool.not_eq_false] at h1
      exact ⟨by omega, h1.2⟩
  · have ih := runP_sp r' (l ++ [seg r])
    rw [h, ih, sp_cons h]
    have hpos : 0 < (sp r').length := List.length_pos_iff.2 (sp_ne r')
    simp only [List.length_append, List.length_cons, List.length_nil, List.all_cons, List.append_assoc, List.cons_append, List.nil_append, Bool.and_eq_true]
    by_cases h1 : 8 ≤ l.length ∨ nameOK (seg r) = false
    · rw [if_pos h1, if_neg]
      rcases h1 with h1 | h1
      · omega
      · simp [h1]
    · rw [if_neg h1]
      simp only [not_or, Bool.not_eq_false] at h1
      simp only [h1.2, true_and]
termination_by r.length
decreasing_by have := aft_le r; rw [h] at this; simp at this; omega

theorem parse_cons {r : Str} (h : r ≠ []) : parse (47 :: r) = if okL (sp r) = true then some (sp r) else none := by
  unfold parse
  rw [if_neg (by simpa using h), runP_sp]
  simp only [okL, List.nil_append, Bool.and_eq_true, decide_eq_true_eq]
theorem parse_not {c : UInt8} {r : Str} (h : c ≠ 47) : parse (c :: r) = none := by
  unfold parse
  rw [if_neg (by simp [h]), runP_cons, if_pos h]
theorem parse_nil : parse [] = none := by
  unfold parse
  rw [if_neg (by simp), runP_nil, if_pos rfl]
theorem parse_root : parse [47] = some [] := by simp [parse]

theorem parse_some {p : Str} {l : List Str} (h : parse p = some l) : okL l = true ∧ p = pathOf l := by
  match p with
  | [] => rw [parse_nil] at h; cases h
  | c :: r =>
    by_cases hc : c = 47
    · subst hc
      by_cases hr : r = []
      · subst hr; rw [parse_root] at h; cases h; exact ⟨rfl, by simp [pathOf, join_nil]⟩
      · rw [parse_cons hr] at h
        split at h
        · cases h; exact ⟨by assumption, by rw [pathOf, join_sp]⟩
        · cases h
    · rw [parse_not hc] at h; cases h
theorem okL_names {l : List Str} (h : okL l = true) : l.length ≤ 8 ∧ ∀ s ∈ l, nameOK s = true := by
  simpa [okL] using h
theorem join_ne {l : List Str} (h : okL l = true) (h0 : l ≠ []) : Lib.join l [47] ≠ [] := by
  have := okL_names h
  match l, h0 with
  | [a], _ =>
    rw [join_one]
    intro e
    have := this.2 a List.mem_cons_self
    rw [e] at this
    simp [nameOK] at this
  | a :: b :: l, _ => rw [join_cons]; simp
theorem parse_pathOf {l : List Str} (h : okL l = true) : parse (pathOf l) = some l := by
  by_cases h0 : l = []
  · subst h0; simp [pathOf, join_nil, parse_root]
  · have hs := sp_join l h0 fun s hs => nameOK_not ((okL_names h).2 s hs)
    rw [pathOf, parse_cons (join_ne h h0), hs, if_pos h]

/-- The reference's cut. -/
def cutP (p : Str) : List Str := if p = [47] then [] else sp (p.drop 1)
theorem cut_some {p : Str} {l : List Str} (h : parse p = some l) : cutP p = l := by
  obtain ⟨h1, rfl⟩ := parse_some h
  unfold cutP
  by_cases h0 : l = []
  · subst h0; simp [pathOf, join_nil]
  · rw [if_neg (by simpa [pathOf] using join_ne h1 h0)]
    exact sp_join l h0 fun s hs => nameOK_not ((okL_names h1).2 s hs)
theorem valid_iff (p : Str) : (okL (cutP p) && decide (pathOf (cutP p) = p)) = (parse p).isSome := by
  cases h : parse p with
  | some l =>
    obtain ⟨h1, h2⟩ := parse_some h
    rw [cut_some h]
    simp [h1, ← h2]
  | none =>
    rw [Option.isSome_none, ← Bool.not_eq_true]
    intro h1
    simp only [Bool.and_eq_true, decide_eq_true_eq] at h1
    have := parse_pathOf h1.1
    rw [h1.2, h] at this
    cases this
theorem path_len {l : List Str} (h : okL l = true) : 1 ≤ (pathOf l).length ∧ (pathOf l).length ≤ 137 := by
  have h1 := okL_names h
  have := join_le l fun s hs => nameOK_le (h1.2 s hs)
  simp only [pathOf, List.length_cons]
  omega
end Go.DS

/-
  Walks: the functions of paths.
-/
namespace Go.DS
open Go Go.Proofs
set_option maxRecDepth 100000
set_option linter.unusedVariables false
set_option linter.unusedSimpArgs false
variable {h : DHeap}
def depthP (p : Str) : Int := match parse p with
  | some l => l.length
  | none => -1
def belowP (p q : Str) : Bool := match parse p, parse q with
  | some a, some b => decide (a.length < b.length) && decide (a = b.take a.length)
  | _, _ => false
theorem names_ok (p : Str) : okL (namesP p) = true := by
  unfold namesP
  cases h : parse p with
  | none => rfl
  | some l => exact (parse_some h).1
theorem names_le (p : Str) : (namesP p).length ≤ 8 := (okL_names (names_ok p)).1
theorem okL_sub {l m : List Str} (h : okL l = true) (hm : m.length ≤ l.length) (hs : ∀ s ∈ m, s ∈ l) : okL m = true := by
  have := okL_names h
  simp only [okL, Bool.and_eq_true, decide_eq_true_eq, List.all_eq_true]
  exact ⟨by omega, fun s hsm => this.2 s (hs s hsm)⟩
theorem join_ok {l : List Str} (h : okL l = true) : l.length ≤ 1048576 ∧ (Lib.join l [47]).length ≤ 1099511627776 := by
  have h1 := okL_names h
  have := join_le l fun s hs => nameOK_le (h1.2 s hs)
  omega
@[go_sem] theorem splitV_eq (p : Str) : splitV p = .tup [vts true (namesP p), vb (parse p).isSome] := by
  unfold splitV namesP
  cases parse p <;> rfl

end Go.DS

/-
  Commands, and cells of paths: plain.
-/
namespace Go.DS
open Go
abbrev Cel := Str × UInt8
abbrev cel (c : Cel) : List DV := [vs c.1, .sc (.int .u8 c.2.toNat)]
def cls (l : List Cel) : List (List DV) := l.map fun c => [vs c.1, .sc (.int .u8 c.2.toNat)]
@[go_sem] theorem cls_len (l : List Cel) : (cls l).length = l.length := by simp [cls]
@[go_sem] theorem cls_app (l m : List Cel) : cls l ++ cls m = cls (l ++ m) := by simp [cls]
@[go_sem high] theorem idxP_cls (l : List Cel) (i : Int) (N : List DV → Prop) : IdxP (cls l) i N = IdxP l i fun c => N [vs c.1, .sc (.int .u8 c.2.toNat)] := idxP_map
theorem free_cls : ∀ l : List Cel, heapFree.alls (cls l) = true
  | [] => rfl
  | s :: l => by
    have := free_cls l
    simp only [cls] at this
    simp only [cls, List.map_cons, heapFree.alls, heapFree.all, heapFree, this, Bool.and_self]
/-- Bytes, as a list. -/
def bys (l : List UInt8) : List (List DV) := l.map fun b => [.sc (.int .u8 b.toNat)]
@[go_sem] theorem bys_len (l : List UInt8) : (bys l).length = l.length := by simp [bys]
@[go_sem high] theorem idxP_bys (l : List UInt8) (i : Int) (N : List DV → Prop) : IdxP (bys l) i N = IdxP l i fun c => N [.sc (.int .u8 c.toNat)] := idxP_map
theorem free_bys : ∀ l : List UInt8, heapFree.alls (bys l) = true
  | [] => rfl
  | s :: l => by
    have := free_bys l
    simp only [bys] at this
    simp only [bys, List.map_cons, heapFree.alls, heapFree.all, heapFree, this, Bool.and_self]
/-- A command. -/
structure Cmd where
  client : Int
  seq : Int
  op : Int
  path : Str
  value : Str
  version : Int
  a : Int
  b : Int
  deriving DecidableEq
abbrev cmdL (c : Cmd) : List DV := [vi c.client, vi c.seq, vi c.op, vs c.path, vs c.value, vi c.version, vi c.a, vi c.b]
abbrev cmdD (c : Cmd) : DV := .agg [vi c.client, vi c.seq, vi c.op, vs c.path, vs c.value, vi c.version, vi c.a, vi c.b]
def cms (l : List Cmd) : List (List DV) := l.map fun c => [vi c.client, vi c.seq, vi c.op, vs c.path, vs c.value, vi c.version, vi c.a, vi c.b]
@[go_sem] theorem cms_len (l : List Cmd) : (cms l).length = l.length := by simp [cms]
@[go_sem high] theorem idxP_cms (l : List Cmd) (i : Int) (N : List DV → Prop) : IdxP (cms l) i N = IdxP l i fun c => N [vi c.client, vi c.seq, vi c.op, vs c.path, vs c.value, vi c.version, vi c.a, vi c.b] := idxP_map
theorem free_cms : ∀ l : List Cmd, heapFree.alls (cms l) = true
  | [] => rfl
  | s :: l => by
    have := free_cms l
    simp only [cms] at this
    simp only [cms, List.map_cons, heapFree.alls, heapFree.all, heapFree, this, Bool.and_self]

def ofP (p : Str) (l : List UInt8) : List Cel := l.map fun b => (p, b)
/-- What is read, what is written. -/
def usesP (c : Cmd) : List Cel × List Cel :=
  if parse c.path = none then ([], []) else
  if c.op = 4 then (ofP c.path [101, 118], []) else
  if c.op = 5 then (ofP c.path [101, 107], []) else
  if parentP c.path = [] then (if c.op = 1 then (ofP c.path [101], []) else ([], [])) else
  if c.op = 1 then (ofP (parentP c.path) [101] ++ ofP c.path [101], ofP c.path [101, 118] ++ ofP (parentP c.path) [107]) else
  if c.op = 2 then (ofP c.path [101, 107], ofP c.path [101, 118] ++ ofP (parentP c.path) [107]) else
  if c.op = 3 then (ofP c.path [101], ofP c.path [118]) else
  if c.op = 6 then (ofP c.path [101, 118], ofP c.path [118]) else ([], [])
theorem uses_le (c : Cmd) : (usesP c).1.length ≤ 3 ∧ (usesP c).2.length ≤ 3 := by
  unfold usesP
  repeat' split
  all_goals simp [ofP]
theorem root_iff {p : Str} {l : List Str} (h : parse p = some l) : parentP p = [] ↔ p = [47] := by
  obtain ⟨h1, h2⟩ := parse_some h
  have hn : namesP p = l := by simp [namesP, h]
  unfold parentP
  rw [hn]
  constructor
  · intro h3
    split at h3
    · rename_i h4; subst h4; rw [h2]; simp [pathOf, join_nil]
    · simp [pathOf] at h3
  · intro h3
    subst h3
    rw [parse_root] at h
    cases h
    simp
/-- The set of cells, as a map. -/
def mcs (l : List Cel) : List (DV × DV) := l.map fun c => (.agg [vs c.1, .sc (.int .u8 c.2.toNat)], .sc (.bool true))
def insC (c : Cel) (l : List Cel) : List Cel := if c ∈ l then l else l ++ [c]
def insAll (l : List Cel) : List Cel := l.foldl (fun m c => insC c m) []
theorem insAll_snoc (l : List Cel) (c : Cel) : insAll (l ++ [c]) = insC c (insAll l) := by simp [insAll]
theorem mem_insC {c d : Cel} {l : List Cel} : d ∈ insC c l ↔ d = c ∨ d ∈ l := by
  unfold insC
  split
  · rename_i h
    exact ⟨.inr, fun hd => hd.elim (fun e => e ▸ h) id⟩
  · simp [or_comm]
theorem mem_insAll {d : Cel} (l : List Cel) : d ∈ insAll l ↔ d ∈ l := by
  have : ∀ (l m : List Cel), d ∈ l.foldl (fun m c => insC c m) m ↔ d ∈ l ∨ d ∈ m := by
    intro l
    induction l with
    | nil => intro m; simp
    | cons c l ih => intro m; simp only [List.foldl_cons, ih, mem_insC, List.mem_cons]; grind
  simp [insAll, this]
theorem eqK_cel (c d : Cel) : eqKey [2, 0] (.agg [vs c.1, .sc (.int .u8 c.2.toNat)]) (.agg [vs d.1, .sc (.int .u8 d.2.toNat)]) = some (decide (c = d)) := by
  have e := mkB_beq c.1 d.1
  have e2 : ((c.2.toNat : Int) == (d.2.toNat : Int)) = decide (c.2 = d.2) := by
    rw [Bool.eq_iff_iff]
    simp only [beq_iff_eq, decide_eq_true_eq]
    constructor
    · intro h; exact UInt8.toNat_inj.1 (by omega)
    · intro h; rw [h]
  simp only [eqKey, eqs, scs, eqV, eq1, e, e2, if_true]
  congr 1
  rw [Bool.eq_iff_iff]
  simp [Prod.ext_iff]
theorem find_mcs (c : Cel) : ∀ l : List Cel, findD [2, 0] (.agg [vs c.1, .sc (.int .u8 c.2.toNat)]) (mcs l) = some (if c ∈ l then some (.sc (.bool true)) else none)
  | [] => rfl
  | d :: l => by
    have ih := find_mcs c l
    simp only [mcs] at ih
    simp only [mcs, List.map_cons, findD, eqK_cel]
    by_cases h : c = d
    · simp [h]
    · simp only [h, decide_false, ih, List.mem_cons, false_or]
theorem set_mcs (c : Cel) : ∀ l : List Cel, setKey [2, 0] (.agg [vs c.1, .sc (.int .u8 c.2.toNat)]) (.sc (.bool true)) (mcs l) = some (mcs (insC c l))
  | [] => rfl
  | d :: l => by
    have ih := set_mcs c l
    simp only [mcs] at ih
    simp only [mcs, List.map_cons, setKey, eqK_cel]
    by_cases h : c = d
    · subst h; simp [insC]
    · simp only [h, decide_false, ih, Option.map_some, Option.some.injEq]
      have : insC c (d :: l) = d :: insC c l := by
        unfold insC
        simp only [List.mem_cons, h, false_or]
        split <;> rfl
      rw [this]; rfl
def spoilsP (w r x : List Cel) : Bool := w.any fun c => decide (c ∈ r ++ x)
def pathsB (a b : Cmd) : Bool := spoilsP (usesP a).2 (usesP b).1 (usesP b).2 || spoilsP (usesP b).2 (usesP a).1 (usesP a).2
def controlB (c : Cmd) : Bool := decide (7 ≤ c.op) && decide (c.op ≤ 9)
def bothB (a b : Cmd) : Bool := if a.op = 0 ∨ b.op = 0 then false else controlB a || controlB b || decide (a.client = b.client) || pathsB a b
theorem paths_comm (a b : Cmd) : pathsB a b = pathsB b a := by unfold pathsB; rw [Bool.or_comm]
def meetB (a b : List Cel) : Bool := a.any fun c => decide (c ∈ b)
theorem paths_meet (a b : Cmd) : pathsB a b = (meetB (usesP a).2 (usesP b).1 || meetB (usesP a).2 (usesP b).2 || meetB (usesP b).2 (usesP a).1) := by
  rw [Bool.eq_iff_iff]
  simp only [pathsB, spoilsP, meetB, Bool.or_eq_true, List.any_eq_true, decide_eq_true_eq, List.mem_append]
  grind
def bigC (c : Cmd) : Bool := decide (300 < c.path.length) || decide (300 < c.value.length)
/-- Is there more than is looked at? -/
def overP (l : List Cmd) : Bool := (l.take 61).any bigC || decide (60 < l.length)
end Go.DS

/-
  Walks: which of two instances comes first.
-/
namespace Go.DS
open Go Go.Proofs
set_option maxRecDepth 100000
set_option linter.unusedVariables false
set_option linter.unusedSimpArgs false
def cd87 : Cd := .seq (R [cb 2 (.tk (.c (kb false)))] [0]) (.seq (R [c0 3 (.mv (.s 0)), c0 4 (.mv (.s 0)), cb 5 (.bin .neq .any (.s 3) (.s 4)), cb 2 (.tk (.s 5))] [2]) (.ret))
theorem fun87 : Fun Try.prog cfg 87 6 cd87 [.s 2] := ⟨rfl, Try.f87, _, Try.func87, rfl, rfl, by kernel_rfl, by kernel_rfl⟩
@[go_sem] theorem ok87 : calleeOK Try.prog 87 = true := by kernel_rfl
@[go_sem] theorem ex87 : (cfg.ext 87).isSome = false := rfl
def cd83 : Cd := .seq (R [c0 4 (.tk (.c (ki .i64 0)))] [0, 1]) (.seq (R [c0 7 (.mv (.s 0)), cb 8 (.call none (.c (kf 87)) [(.s 7)]), cb 5 (.tk (.s 8))] [0, 1, 5]) (.seq (R [c0 9 (.mv (.s 1)), cb 10 (.call none (.c (kf 87)) [(.s 9)]), cb 6 (.tk (.s 10))] [0, 1, 5, 6]) (.seq (.seq (R [cb 11 (.mv (.s 5))] [0, 1, 6, 11]) (.ite (.s 11) (.seq (.seq (R [cb 12 (.mv (.s 6))] [12]) (.ite (.s 12) (.seq (R [c0 4 (.tk (.c (ki .i64 0)))] [4]) (.ret)) (.skip))) (.seq (R [c0 4 (.tk (.c (ki .i64 (-1))))] [4]) (.ret))) (.skip))) (.seq (.seq (R [cb 13 (.mv (.s 6))] [0, 1, 13]) (.ite (.s 13) (.seq (R [c0 4 (.tk (.c (ki .i64 1)))] [4]) (.ret)) (.skip))) (.seq (.seq (R [c0 14 (.mv (.s 0)), c0 15 (.mv (.s 1)), cb 16 (.bin .lss .any (.s 14) (.s 15))] [0, 1, 16]) (.ite (.s 16) (.seq (R [c0 4 (.tk (.c (ki .i64 (-1))))] [4]) (.ret)) (.skip))) (.seq (.seq (R [c0 17 (.mv (.s 0)), c0 18 (.mv (.s 1)), cb 19 (.bin .gtr .any (.s 17) (.s 18))] [19]) (.ite (.s 19) (.seq (R [c0 4 (.tk (.c (ki .i64 1)))] [4]) (.ret)) (.skip))) (.seq (R [c0 4 (.tk (.c (ki .i64 0)))] [4]) (.ret))))))))
theorem fun83 : Fun Try.prog cfg 83 20 cd83 [.s 4] := ⟨rfl, Try.f83, _, Try.func83, rfl, rfl, by kernel_rfl, by kernel_rfl⟩
@[go_sem] theorem ok83 : calleeOK Try.prog 83 = true := by kernel_rfl
@[go_sem] theorem ex83 : (cfg.ext 83).isSome = false := rfl
def cd82 : Cd := .seq (R [c0 2 (.tk (.c (ki .i64 0)))] [0]) (.seq (R [c0 3 (.tk (.c (ki .i64 0)))] [0, 3]) (.seq (.seq (R [c0 6 (.mv (.s 0)), c0 7 (.len 1 (.s 6)), c0 8 (.mv (.c (ki .i64 0)))] [3, 6, 7, 8]) (.block 0 (LP [3, 6, 7, 8] (.seq (R [c0 9 (.bin .lss .any (.s 8) (.s 7))] [3, 6, 7, 8, 9]) (.seq (.ite (.s 9) (.skip) (.exit 0)) (.seq (.block 1 (.seq (R [c0 10 (.ixp 1 (.s 6) (.s 8)), c0 11 (.ld false 1 (.s 10)), c0 5 (.tk (.s 11))] [3, 5, 6, 7, 8]) (.seq (R [c0 12 (.mv (.s 5)), c0 13 (.mv (.s 3)), cb 14 (.bin .neq .any (.s 12) (.s 13))] [3, 5, 6, 7, 8, 14]) (.ite (.s 14) (.seq (R [c0 15 (.mv (.s 5)), c0 2 (.tk (.s 15))] [2]) (.ret)) (.skip))))) (R [c0 16 (.bin .add .any (.s 8) (.c (ki .i64 1))), c0 8 (.mv (.s 16))] [3, 6, 7, 8]))))))) (.seq (R [c0 17 (.mv (.s 3)), c0 2 (.tk (.s 17))] [2]) (.ret))))
theorem fun82 : Fun Try.prog cfg 82 18 cd82 [.s 2] := ⟨rfl, Try.f82, _, Try.func82, rfl, rfl, by kernel_rfl, by kernel_rfl⟩
@[go_sem] theorem ok82 : calleeOK Try.prog 82 = true := by kernel_rfl
@[go_sem] theorem ex82 : (cfg.ext 82).isSome = false := rfl
def cd78 : Cd := .seq (R [c0 2 (.new false (.s 0)), c0 3 (.new false (.s 1)), c0 4 (.mv (.c (ki .i64 0)))] [2, 3]) (.seq (RD [cd (some 5) false none (.mov 0 (.s 2)) false false [2], cd (some 6) false none (.ld false 1 (.s 5)) false false [5], cd (some 7) false none (.mov 0 (.s 3)) false false [3], cd (some 8) false none (.ld false 1 (.s 7)) false false [7], cd (some 9) false none (.call none (.c (kf 83)) [(.s 6), (.s 8)]) false false [6, 8], cd (some 10) false none (.mov 2 (.s 2)) false false [2], cd (some 11) false none (.ld false 1 (.s 10)) false false [10], cd (some 12) false none (.mov 2 (.s 3)) false false [3], cd (some 13) false none (.ld false 1 (.s 12)) false false [12], cd (some 14) false none (.call none (.c (kf 83)) [(.s 11), (.s 13)]) false false [11, 13], cd (some 15) false none (.mov 1 (.s 2)) false false [2], cd (some 16) false none (.ld false 1 (.s 15)) false false [15], cd (some 17) false none (.mov 1 (.s 3)) false false [3], cd (some 18) false none (.ld false 1 (.s 17)) false false [17], cd (some 19) false none (.call none (.c (kf 83)) [(.s 16), (.s 18)]) false false [16, 18], cd (some 20) false none (.bsl 1 [(.s 9), (.s 14), (.s 19)]) false false [9, 14, 19], cd (some 21) false none (.call none (.c (kf 82)) [(.s 20)]) false false [20], cd (some 4) false none (.mv (.s 21)) false false [21]] [2, 3, 4] []) (.ret))
theorem fun78 : Fun Try.prog cfg 78 22 cd78 [.s 4] := ⟨rfl, Try.f78, _, Try.func78, rfl, rfl, by kernel_rfl, by kernel_rfl⟩
@[go_sem] theorem ok78 : calleeOK Try.prog 78 = true := by kernel_rfl
@[go_sem] theorem ex78 : (cfg.ext 78).isSome = false := rfl
variable {h : DHeap}
/-- Where the first is that is such, or -1. -/
def posI {α : Type} (p : α → Bool) (l : List α) : Int := match l.findIdx? p with
  | some n => n
  | none => -1
theorem posI_ge {α : Type} (p : α → Bool) (l : List α) : decide (0 ≤ posI p l) = l.any p := by
  unfold posI
  cases hf : l.findIdx? p with
  | none =>
    have := List.findIdx?_eq_none_iff.1 hf
    rw [Bool.eq_iff_iff]
    simp only [decide_eq_true_eq, List.any_eq_true]
    constructor
    · intro h1; omega
    · rintro ⟨c, hc, h1⟩; have := this c hc; rw [h1] at this; simp at this
  | some n =>
    obtain ⟨hn, h1, h2⟩ := List.findIdx?_eq_some_iff_getElem.1 hf
    rw [Bool.eq_iff_iff]
    simp only [decide_eq_true_eq, List.any_eq_true]
    exact ⟨fun _ => ⟨l[n], List.getElem_mem _, h1⟩, fun _ => by omega⟩
theorem posI_at {α : Type} {p : α → Bool} {l : List α} {k : Nat} (hk : k < l.length) (hp : p l[k] = true) (hn : ∀ j (hj : j < l.length), j < k → p l[j] = false) : posI p l = k := by
  have e : l.findIdx? p = some k := List.findIdx?_eq_some_iff_getElem.2 ⟨hk, hp, fun j hjk => by rw [hn j (by omega) hjk]; decide⟩
  unfold posI; rw [e]
theorem posI_no {α : Type} {p : α → Bool} {l : List α} (hn : ∀ j (hj : j < l.length), p l[j] = false) : posI p l = -1 := by
  have e : l.findIdx? p = none := List.findIdx?_eq_none_iff.2 fun c hc => by
    obtain ⟨j, hj1, rfl⟩ := List.getElem_of_mem hc
    exact hn j hj1
  unfold posI; rw [e]
/-- The first that is not zero. -/
def orI : List Int → Int
  | [] => 0
  | a :: l => if a ≠ 0 then a else orI l
theorem orI_zeros {l : List Int} {k : Nat} (h : ∀ x ∈ l.take k, x = 0) : orI l = orI (l.drop k) := by
  induction l generalizing k with
  | nil => simp
  | cons a l ih =>
    cases k with
    | zero => rfl
    | succ k =>
      have ha : a = 0 := h a (by simp)
      simp only [orI, ha, ne_eq, not_true, if_false, List.drop_succ_cons]
      exact ih fun x hx => h x (by simp [hx])
theorem isNaNI_lim (p : Int) : lim Try.prog cfg 87 [vi p] h = some (vb false, h) := by
  refine lim_funp fun87 rfl (by simp) rfl rfl ?_
  delta cd87
  simp -implicitDefEqProofs -dsimp only [go_sem]
theorem compareI_lim (a b : Int) : lim Try.prog cfg 83 [vi a, vi b] h = some (vi (cmpI a b), h) := by
  refine lim_funp fun83 rfl (by simp) rfl rfl ?_
  delta cd83
  have n1 := isNaNI_lim (h := []) a
  have n2 := isNaNI_lim (h := []) b
  by_cases h1 : a < b
  · simp -implicitDefEqProofs -dsimp only [go_sem, n1, n2, h1]
    simp [cmpI, h1]
  · by_cases h2 : b < a
    · simp -implicitDefEqProofs -dsimp only [go_sem, n1, n2, h1, h2]
      simp [cmpI, h1, h2]
    · simp -implicitDefEqProofs -dsimp only [go_sem, n1, n2, h1, h2]
      simp [cmpI, h1, h2]
theorem or_lim (own : Bool) (l : List Int) (hl : l.length ≤ 1000000) : lim Try.prog cfg 82 [.list own 1 (vnums l)] h = some (vi (orI l), h) := by
  refine lim_funp fun82 rfl (by simp) (by simp [heapFree, free_vnums]) rfl ?_
  delta cd82
  simp -implicitDefEqProofs -dsimp only [go_sem]
  refine wp_for (σ := Nat) (fun k => [(3, vi 0), (6, .list false 1 (vnums l)), (7, vi (l.length : Nat)), (8, vi (k : Nat))]) (fun _ => []) (fun k => l.length - k) (fun k => k ≤ l.length ∧ orI l = orI (l.drop k)) 0 (by simp) rfl rfl ?_
  rintro k ⟨hk, ho⟩ N hN
  by_cases hlt : k < l.length
  · have h1 : ((k : Int) < (l.length : Int)) := by omega
    have hd : l.drop k = l[k] :: l.drop (k + 1) := List.drop_eq_getElem_cons hlt
    rw [hd] at ho
    by_cases h0 : l[k] = 0
    · simp -implicitDefEqProofs -dsimp only [go_sem, h1, hlt, h0]
      refine hN (k + 1) _ (by omega) ⟨by omega, by rw [ho]; simp [orI, h0]⟩ ?_
      simp -implicitDefEqProofs -dsimp only [go_sem, wrap_succ (show k < 9223372036854775807 by omega)]
    · have : orI l = l[k] := by rw [ho]; simp [orI, h0]
      rw [this]
      simp -implicitDefEqProofs -dsimp only [go_sem, h1, hlt, h0]
  · have h1 : ¬ ((k : Int) < (l.length : Int)) := by omega
    have : k = l.length := by omega
    subst this
    rw [ho, List.drop_length]
    simp -implicitDefEqProofs -dsimp only [go_sem, h1]
    rfl
theorem ordD_lim (a b : Id) : lim Try.prog cfg 78 [.agg [vi a.e, vi a.n, vi a.k], .agg [vi b.e, vi b.n, vi b.k]] h = some (vi (ordI a b), h) := by
  refine lim_funp fun78 rfl (by simp) rfl rfl ?_
  delta cd78
  have e1 := compareI_lim (h := []) a.e b.e
  have e2 := compareI_lim (h := []) a.k b.k
  have e3 := compareI_lim (h := []) a.n b.n
  have e4 := or_lim (h := []) false [cmpI a.e b.e, cmpI a.k b.k, cmpI a.n b.n] (by simp)
  simp only [vnums, List.map_cons, List.map_nil] at e4
  have e5 : orI [cmpI a.e b.e, cmpI a.k b.k, cmpI a.n b.n] = ordI a b := by
    unfold ordI
    simp only [orI]
    split
    · rfl
    · split
      · rfl
      · split
        · rfl
        · omega
  rw [e5] at e4
  simp -implicitDefEqProofs -dsimp only [go_sem, wp_RD, e1, e2, e3, e4]
end Go.DS

/-
  Walks of 'order' of instances, by settings that tell that the count of what was drawn never falls.
-/
namespace Go.DS
open Go Go.Proofs
set_option maxRecDepth 100000
set_option linter.unusedVariables false
set_option linter.unusedSimpArgs false
namespace MI
noncomputable abbrev cfg : Cfg := cfgA
def cd87 : Cd := .seq (R [cb 2 (.tk (.c (kb false)))] [0]) (.seq (R [c0 3 (.mv (.s 0)), c0 4 (.mv (.s 0)), cb 5 (.bin .neq .any (.s 3) (.s 4)), cb 2 (.tk (.s 5))] [2]) (.ret))
theorem fun87 : Fun Try.prog cfg 87 6 cd87 [.s 2] := ⟨rfl, Try.f87, _, Try.func87, rfl, rfl, by kernel_rfl, by kernel_rfl⟩
@[go_sem] theorem ok87 : calleeOK Try.prog 87 = true := by kernel_rfl
@[go_sem] theorem ex87 : (cfg.ext 87).isSome = false := rfl
def cd83 : Cd := .seq (R [c0 4 (.tk (.c (ki .i64 0)))] [0, 1]) (.seq (R [c0 7 (.mv (.s 0)), cb 8 (.call none (.c (kf 87)) [(.s 7)]), cb 5 (.tk (.s 8))] [0, 1, 5]) (.seq (R [c0 9 (.mv (.s 1)), cb 10 (.call none (.c (kf 87)) [(.s 9)]), cb 6 (.tk (.s 10))] [0, 1, 5, 6]) (.seq (.seq (R [cb 11 (.mv (.s 5))] [0, 1, 6, 11]) (.ite (.s 11) (.seq (.seq (R [cb 12 (.mv (.s 6))] [12]) (.ite (.s 12) (.seq (R [c0 4 (.tk (.c (ki .i64 0)))] [4]) (.ret)) (.skip))) (.seq (R [c0 4 (.tk (.c (ki .i64 (-1))))] [4]) (.ret))) (.skip))) (.seq (.seq (R [cb 13 (.mv (.s 6))] [0, 1, 13]) (.ite (.s 13) (.seq (R [c0 4 (.tk (.c (ki .i64 1)))] [4]) (.ret)) (.skip))) (.seq (.seq (R [c0 14 (.mv (.s 0)), c0 15 (.mv (.s 1)), cb 16 (.bin .lss .any (.s 14) (.s 15))] [0, 1, 16]) (.ite (.s 16) (.seq (R [c0 4 (.tk (.c (ki .i64 (-1))))] [4]) (.ret)) (.skip))) (.seq (.seq (R [c0 17 (.mv (.s 0)), c0 18 (.mv (.s 1)), cb 19 (.bin .gtr .any (.s 17) (.s 18))] [19]) (.ite (.s 19) (.seq (R [c0 4 (.tk (.c (ki .i64 1)))] [4]) (.ret)) (.skip))) (.seq (R [c0 4 (.tk (.c (ki .i64 0)))] [4]) (.ret))))))))
theorem fun83 : Fun Try.prog cfg 83 20 cd83 [.s 4] := ⟨rfl, Try.f83, _, Try.func83, rfl, rfl, by kernel_rfl, by kernel_rfl⟩
@[go_sem] theorem ok83 : calleeOK Try.prog 83 = true := by kernel_rfl
@[go_sem] theorem ex83 : (cfg.ext 83).isSome = false := rfl
def cd82 : Cd := .seq (R [c0 2 (.tk (.c (ki .i64 0)))] [0]) (.seq (R [c0 3 (.tk (.c (ki .i64 0)))] [0, 3]) (.seq (.seq (R [c0 6 (.mv (.s 0)), c0 7 (.len 1 (.s 6)), c0 8 (.mv (.c (ki .i64 0)))] [3, 6, 7, 8]) (.block 0 (LP [3, 6, 7, 8] (.seq (R [c0 9 (.bin .lss .any (.s 8) (.s 7))] [3, 6, 7, 8, 9]) (.seq (.ite (.s 9) (.skip) (.exit 0)) (.seq (.block 1 (.seq (R [c0 10 (.ixp 1 (.s 6) (.s 8)), c0 11 (.ld false 1 (.s 10)), c0 5 (.tk (.s 11))] [3, 5, 6, 7, 8]) (.seq (R [c0 12 (.mv (.s 5)), c0 13 (.mv (.s 3)), cb 14 (.bin .neq .any (.s 12) (.s 13))] [3, 5, 6, 7, 8, 14]) (.ite (.s 14) (.seq (R [c0 15 (.mv (.s 5)), c0 2 (.tk (.s 15))] [2]) (.ret)) (.skip))))) (R [c0 16 (.bin .add .any (.s 8) (.c (ki .i64 1))), c0 8 (.mv (.s 16))] [3, 6, 7, 8]))))))) (.seq (R [c0 17 (.mv (.s 3)), c0 2 (.tk (.s 17))] [2]) (.ret))))
theorem fun82 : Fun Try.prog cfg 82 18 cd82 [.s 2] := ⟨rfl, Try.f82, _, Try.func82, rfl, rfl, by kernel_rfl, by kernel_rfl⟩
@[go_sem] theorem ok82 : calleeOK Try.prog 82 = true := by kernel_rfl
@[go_sem] theorem ex82 : (cfg.ext 82).isSome = false := rfl
def cd78 : Cd := .seq (R [c0 2 (.new false (.s 0)), c0 3 (.new false (.s 1)), c0 4 (.mv (.c (ki .i64 0)))] [2, 3]) (.seq (RD [cd (some 5) false none (.mov 0 (.s 2)) false false [2], cd (some 6) false none (.ld false 1 (.s 5)) false false [5], cd (some 7) false none (.mov 0 (.s 3)) false false [3], cd (some 8) false none (.ld false 1 (.s 7)) false false [7], cd (some 9) false none (.call none (.c (kf 83)) [(.s 6), (.s 8)]) false false [6, 8], cd (some 10) false none (.mov 2 (.s 2)) false false [2], cd (some 11) false none (.ld false 1 (.s 10)) false false [10], cd (some 12) false none (.mov 2 (.s 3)) false false [3], cd (some 13) false none (.ld false 1 (.s 12)) false false [12], cd (some 14) false none (.call none (.c (kf 83)) [(.s 11), (.s 13)]) false false [11, 13], cd (some 15) false none (.mov 1 (.s 2)) false false [2], cd (some 16) false none (.ld false 1 (.s 15)) false false [15], cd (some 17) false none (.mov 1 (.s 3)) false false [3], cd (some 18) false none (.ld false 1 (.s 17)) false false [17], cd (some 19) false none (.call none (.c (kf 83)) [(.s 16), (.s 18)]) false false [16, 18], cd (some 20) false none (.bsl 1 [(.s 9), (.s 14), (.s 19)]) false false [9, 14, 19], cd (some 21) false none (.call none (.c (kf 82)) [(.s 20)]) false false [20], cd (some 4) false none (.mv (.s 21)) false false [21]] [2, 3, 4] []) (.ret))
theorem fun78 : Fun Try.prog cfg 78 22 cd78 [.s 4] := ⟨rfl, Try.f78, _, Try.func78, rfl, rfl, by kernel_rfl, by kernel_rfl⟩
@[go_sem] theorem ok78 : calleeOK Try.prog 78 = true := by kernel_rfl
@[go_sem] theorem ex78 : (cfg.ext 78).isSome = false := rfl
variable {h : DHeap}
theorem isNaNI_lim (p : Int) : lim Try.prog cfg 87 [vi p] h = some (vb false, h) := by
  refine lim_funp fun87 rfl (by simp) rfl rfl ?_
  delta cd87
  simp -implicitDefEqProofs -dsimp only [go_sem]
theorem compareI_lim (a b : Int) : lim Try.prog cfg 83 [vi a, vi b] h = some (vi (cmpI a b), h) := by
  refine lim_funp fun83 rfl (by simp) rfl rfl ?_
  delta cd83
  have n1 := isNaNI_lim (h := []) a
  have n2 := isNaNI_lim (h := []) b
  by_cases h1 : a < b
  · simp -implicitDefEqProofs -dsimp only [go_sem, n1, n2, h1]
    simp [cmpI, h1]
  · by_cases h2 : b < a
    · simp -implicitDefEqProofs -dsimp only [go_sem, n1, n2, h1, h2]
      simp [cmpI, h1, h2]
    · simp -implicitDefEqProofs -dsimp only [go_sem, n1, n2, h1, h2]
      simp [cmpI, h1, h2]
theorem or_lim (own : Bool) (l : List Int) (hl : l.length ≤ 1000000) : lim Try.prog cfg 82 [.list own 1 (vnums l)] h = some (vi (orI l), h) := by
  refine lim_funp fun82 rfl (by simp) (by simp [heapFree, free_vnums]) rfl ?_
  delta cd82
  simp -implicitDefEqProofs -dsimp only [go_sem]
  refine wp_for (σ := Nat) (fun k => [(3, vi 0), (6, .list false 1 (vnums l)), (7, vi (l.length : Nat)), (8, vi (k : Nat))]) (fun _ => []) (fun k => l.length - k) (fun k => k ≤ l.length ∧ orI l = orI (l.drop k)) 0 (by simp) rfl rfl ?_
  rintro k ⟨hk, ho⟩ N hN
  by_cases hlt : k < l.length
  · have h1 : ((k : Int) < (l.length : Int)) := by omega
    have hd : l.drop k = l[k] :: l.drop (k + 1) := List.drop_eq_getElem_cons hlt
    rw [hd] at ho
    by_cases h0 : l[k] = 0
    · simp -implicitDefEqProofs -dsimp only [go_sem, h1, hlt, h0]
      refine hN (k + 1) _ (by omega) ⟨by omega, by rw [ho]; simp [orI, h0]⟩ ?_
      simp -implicitDefEqProofs -dsimp only [go_sem, wrap_succ (show k < 9223372036854775807 by omega)]
    · have : orI l = l[k] := by rw [ho]; simp [orI, h0]
      rw [this]
      simp -implicitDefEqProofs -dsimp only [go_sem, h1, hlt, h0]
  · have h1 : ¬ ((k : Int) < (l.length : Int)) := by omega
    have : k = l.length := by omega
    subst this
    rw [ho, List.drop_length]
    simp -implicitDefEqProofs -dsimp only [go_sem, h1]
    rfl
theorem ordD_lim (a b : Id) : lim Try.prog cfg 78 [.agg [vi a.e, vi a.n, vi a.k], .agg [vi b.e, vi b.n, vi b.k]] h = some (vi (ordI a b), h) := by
  refine lim_funp fun78 rfl (by simp) rfl rfl ?_
  delta cd78
  have e1 := compareI_lim (h := []) a.e b.e
  have e2 := compareI_lim (h := []) a.k b.k
  have e3 := compareI_lim (h := []) a.n b.n
  have e4 := or_lim (h := []) false [cmpI a.e b.e, cmpI a.k b.k, cmpI a.n b.n] (by simp)
  simp only [vnums, List.map_cons, List.map_nil] at e4
  have e5 : orI [cmpI a.e b.e, cmpI a.k b.k, cmpI a.n b.n] = ordI a b := by
    unfold ordI
    simp only [orI]
    split
    · rfl
    · split
      · rfl
      · split
        · rfl
        · omega
  rw [e5] at e4
  simp -implicitDefEqProofs -dsimp only [go_sem, wp_RD, e1, e2, e3, e4]
end MI
end Go.DS

/-
  Contracts of library functions, laid by the kit's contract.sh for this program (its text), in one file.
-/
namespace Go.Proofs
end Go.Proofs

/-
  strings.Join, strings.IndexByte, strings.Compare: the library's contracts, over this program; what the evaluator is told of them holds.
-/
namespace Go.DS
open Go Go.Proofs Go.Shelf
set_option linter.unusedVariables false
end Go.DS

/-
  From the evaluator's answer to a call's contract; the library's functions.
-/
namespace Go.DS
open Go Go.Proofs Go.Shelf Go.RowKit
set_option linter.unusedVariables false
set_option linter.unusedSimpArgs false

/-- The ghost state ahead of a law's call: nothing of the old memory is ever written. -/
def gh0 (w : World) : Gh where
  n := 0
  η := fun _ => 0
  sz := fun _ => 0
  pc := fun b o => match w.cell? ⟨b, o, none⟩ with
    | some v => if v.oneCell' then some v else none
    | none => none
  kind := fun _ => .foreign
  one := fun b o v h => by
    split at h
    · split at h
      · rename_i hv; cases h; exact hv
      · cases h
    · cases h
theorem gh0_pc {w : World} {b o : Nat} {v : Value} (hc : w.cell? ⟨b, o, none⟩ = some v) (hv : v.oneCell' = true) : (gh0 w).pc b o = some v := by
  simp only [gh0, hc, hv, if_true]
theorem gh0_inv (w : World) : WInv (gh0 w) [] w where
  n := rfl
  pc b o v h := by
    simp only [gh0] at h
    split at h
    · split at h
      · cases h; assumption
      · cases h
    · cases h
  obj i o h := by simp at h

theorem start {P : Program} {C : Cfg} (hext : ExtS P C) {k : FuncId} {args : List DV} {r : Value} {h' : DHeap} (hl : lim P C k args [] = some (.sc r, h')) {vs : Array Value} (w : World) (hr : RelL (gh0 w) args vs.toList) :
    Calls P k vs w fun e w' => e = .returned r ∧ Below w.heap.size w w' := by
  refine (lim_sound hext _ _ _ _ _ hl 0 (gh0 w) w vs (gh0_inv w) hr).mono ?_
  rintro e w' ⟨g', v, s, rfl, hE, hW, hv, ho⟩
  have : v = r := by cases hv; rfl
  subst this
  exact ⟨rfl, hE.os, hE.tape, hE.output, hE.size, fun b hb => hE.heap b hb (by simp [gh0, Keep])⟩

/-- .. with what is said of the count of what was drawn. -/
theorem startM [M : Mono] {P : Program} {k : FuncId} {args : List DV} {r : Value} (hl : CallOK P k args [] (.sc r) []) {vs : Array Value} (w : World) (hr : RelL (gh0 w) args vs.toList) :
    Calls P k vs w fun e w' => e = .returned r ∧ Below w.heap.size w w' ∧ (M.on = true → w.drawn ≤ w'.drawn) := by
  refine (hl 0 (gh0 w) w vs (gh0_inv w) hr).mono ?_
  rintro e w' ⟨g', v, s, rfl, hE, hW, hv, ho⟩
  have : v = r := by cases hv; rfl
  subst this
  exact ⟨rfl, ⟨hE.os, hE.tape, hE.output, hE.size, fun b hb => hE.heap b hb (by simp [gh0, Keep])⟩, hE.drawn⟩

theorem below_touch [M : Mono] {g : Gh} {h : DHeap} {w w' : World} (hb : Below w.heap.size w w') (hdr : M.on = true → w.drawn ≤ w'.drawn) (hW : WInv g h w) : Touch w'.heap.size g g w w' where
  heap k _ hk := hb.block k hk
  pcb o v hv := hv
  pcx k _ := rfl
  pcw o v hv := by
    have := lt_of_cell (hW.pc _ _ _ hv)
    have := hb.size
    omega
  kind k _ := rfl
  n := Nat.le_refl _
  η _ _ := rfl
  sz _ _ := rfl
  size := hb.size
  os := hb.os
  tape := hb.tape
  output := hb.output
  drawn := hdr

/-- A function that leaves the old memory as it was, and hands back what names none. -/
theorem callOK_of [M : Mono] {P : Program} {k : FuncId} {args : List DV} {h : DHeap} {r : Value} (H : ∀ (g : Gh) (w : World) (vs : Array Value), WInv g h w → RelL g args vs.toList → Calls P k vs w fun e w' => e = .returned r ∧ Below w.heap.size w w' ∧ (M.on = true → w.drawn ≤ w'.drawn)) : CallOK P k args h (.sc r) h := by
  intro d g w vs hW hR
  refine (H g w vs hW hR).mono ?_
  rintro e w' ⟨rfl, hb, hdr⟩
  have ht := below_touch hb hdr hW
  exact ⟨g, r, 0, rfl, ht.ext (.inl hb.size), ht.winv rfl (.inl hb.size) hW, .sc r, .none rfl⟩

theorem sc_inv {g : Gh} {u v : Value} (h : RelV g (.sc u) v) : v = u := by cases h; rfl
theorem rel2 {g : Gh} {d e : DV} {vs : Array Value} (h : RelL g [d, e] vs.toList) : ∃ u v, vs = #[u, v] ∧ RelV g d u ∧ RelV g e v := by
  obtain ⟨u, us, h1, hu, h2⟩ := h.cons_inv
  obtain ⟨v, us', rfl, hv, h3⟩ := h2.cons_inv
  have := h3.nil_inv
  subst this
  exact ⟨u, v, by rw [← Array.toList_inj]; exact h1, hu, hv⟩

theorem strsOf_get : ∀ {l : List (List DV)} {xs : List Str}, strsOf l = some xs → l = xs.map fun s => [.sc (.string (mkB s))]
  | [], xs, h => by simp [strsOf] at h; subst h; rfl
  | r :: l, xs, h => by
    unfold strsOf at h
    split at h
    · rename_i heq; cases heq
    · rename_i s l' heq
      cases heq
      split at h
      · rename_i q hq
        cases h
        rw [List.map_cons, ← strsOf_get hq]
        rfl
      · cases h
    · cases h
theorem flat_one (xs : List Str) : (xs.map fun s => [DV.sc (.string (mkB s))]).flatten = xs.map fun s => DV.sc (.string (mkB s)) := by
  induction xs with
  | nil => rfl
  | cons x xs ih => simp only [List.map_cons, List.flatten_cons, ih]; rfl
end Go.DS

/-
  What the evaluator is told of the library's functions that draw nothing back holds.
-/
namespace Go.DS
open Go Go.Proofs Go.Shelf Go.RowKit
set_option linter.unusedVariables false
set_option linter.unusedSimpArgs false
theorem ext_okA : @ExtS ⟨true⟩ Try.prog cfgA := by
  intro k F hF args h r h' hx
  change extA k = some F at hF
  unfold extA at hF
  cases hF
end Go.DS

/-
  slices.Grow of nil: the kit's contract, over this program.
-/
namespace Go.DS
open Go Go.Proofs Go.Shelf
set_option linter.unusedVariables false
set_option linter.unusedSimpArgs false
theorem zeroCells_size (z : Array Value) (n : Nat) : (Builtin.zeroCells z n).size = n * z.size := by simp [Builtin.zeroCells]
theorem grow_ok_of {P : Program} {ρ : Ren} (L : Lays8.n4 P ρ) {s b : Nat} (hi : (P.info? (ρ.t 25)).map (fun i => (i.size, i.bytes, i.zero.map (·.cells.size))) = some (s, b, some s)) (hs : 0 < s) (hb : b ≤ 100000)
    {args : List DV} {h : DHeap} {r : DV} {h' : DHeap} (hx : growF s args h = some (r, h')) : CallOK P (ρ.f 4) args h r h' := by
  unfold growF at hx
  split at hx
  · rename_i h0 n
    split at hx
    · rename_i hn
      cases hx
      obtain ⟨m, rfl⟩ : ∃ m : Nat, n = m := ⟨n.toNat, by omega⟩
      intro d g w vs hW hR
      obtain ⟨u, v, rfl, hu, hv⟩ := rel2 hR
      obtain rfl := sc_inv hu
      obtain rfl := sc_inv hv
      by_cases hm : m = 0
      · subst hm
        refine (Any8.slices_Grow_room L none 0 0 0 w (by omega) (by omega) (by omega) (by omega)).mono ?_
        rintro e w' ⟨rfl, rfl⟩
        exact ⟨g, _, 0, rfl, .refl .., hW, .empty, .mk_list fun hlt => by simp at hlt⟩
      · cases hI : P.info? (ρ.t 25) with
        | none => rw [hI] at hi; cases hi
        | some i0 =>
          rw [hI] at hi
          simp only [Option.map_some, Option.some.injEq, Prod.mk.injEq] at hi
          obtain ⟨e1, e2, e3⟩ := hi
          cases hz : i0.zero with
          | none => rw [hz] at e3; cases e3
          | some z =>
            rw [hz] at e3
            simp only [Option.map_some, Option.some.injEq] at e3
            refine (Any8.slices_Grow_grow L i0 z hI hz (by omega) none 0 0 m [] w (by omega) (by omega) (by rw [e2]; have : (0 + m) * b ≤ 1048576 * 100000 := Nat.mul_le_mul (by omega) hb; omega) (by omega) (by simp) (fun _ => rfl) (fun a e => by cases e)).mono ?_
            rintro e w' ⟨rfl, rfl⟩
            have hg := grownCap_ge w (0 + m) 0 (ρ.t 25)
            generalize grownCap w (0 + m) 0 (ρ.t 25) = c at hg ⊢
            generalize hX : (([] : List Value).toArray ++ Builtin.zeroCells z.cells (0 + m - 0) ++ Builtin.zeroCells z.cells (c - (0 + m))) = X
            have hXs : X.size = c * s := by
              rw [← hX]
              simp only [List.size_toArray, Array.size_append, zeroCells_size, e3, List.length_nil]
              rw [Nat.zero_add, ← Nat.add_mul]
              congr 1
              omega
            have ht := touch_new_own hW.pc [] X.toList (ρ.t 25) (.ownSlot d 0) (fun u hu => by cases hu)
            rw [List.nil_append, Array.toArray_toList] at ht
            refine ⟨_, _, 0, rfl, ht.ext (.inl (Nat.le_refl _)), ht.winv rfl (.inl (Nat.le_refl _)) hW, .empty, .mk_list fun hlt => ⟨w.heap.size, 0, X, ρ.t 25, rfl, ?_, ?_, ?_, ?_⟩⟩
            · simp [Gh.prot]
            · have := heap_new w.drew (.cells X (ρ.t 25))
              simpa using this
            · simp [hXs]
            · intro o ho
              simp [Gh.prot]
    · cases hx
  · cases hx
end Go.DS

/-
  From a contract of the kit's to what the evaluator is told: a new slice that the call owns.
-/
namespace Go.DS
open Go Go.Proofs Go.RowKit
set_option linter.unusedVariables false
set_option linter.unusedSimpArgs false

theorem own_touch {g : Gh} {h : DHeap} {w w' : World} {gb : Nat} {cur : Array Value} {e : TypeId} {xs : List Value} (hW : WInv g h w) (hb : Below w.heap.size w w') (hg : w.heap.size ≤ gb) (hc : w'.heap[gb]? = some (.cells cur e (0, 0)))
    (hx : ∀ (k : Nat) (v : Value), xs[k]? = some v → cur[k]? = some v) (k : Kind) (h1 : ∀ u ∈ xs, u.oneCell' = true) : Touch gb g (g.prot gb xs k h1) w w' where
  heap j _ hj := hb.block j hj
  pcb o v hv := by
    have := lt_of_cell (hW.pc _ _ _ hv)
    omega
  pcx j hj := by
    funext o
    simp only [Gh.prot, if_neg hj]
  pcw o v hv := by
    simp only [Gh.prot, if_true] at hv
    have := hx o v hv
    simp [World.cell?, hc, this]
  kind j hj := by simp only [Gh.prot, if_neg hj]
  n := Nat.le_refl _
  η _ _ := rfl
  sz _ _ := rfl
  size := hb.size
  os := hb.os
  tape := hb.tape
  output := hb.output
  drawn hm := nomatch hm

/-- A new slice that the call owns, as a clean value. -/
theorem own_result {g : Gh} {h : DHeap} {w w' : World} {d : Nat} (hW : WInv g h w) (hb : Below w.heap.size w w') {e : TypeId} {size n : Nat} {v : Value} {xs : List Value} (hr : w'.ownsRow w.heap.size e size v n xs)
    {l : List (List DV)} (hl : l.length = n) (hes : ∀ r ∈ l, r.length = size) (hrel : RelL g l.flatten xs) (hcell : l.flatten.all DV.cell = true) :
    ∃ g' s, Ext d g g' w w' ∧ WInv g' h w' ∧ RelV g' (.list true size l) v ∧ OwnAt g' w' (.ownSlot d s) (.list true size l) v := by
  obtain ⟨hxl, ⟨rfl, hn⟩ | ⟨gb, cap, cur, rfl, hge, hc, hnc, _, hcs, htk⟩⟩ := hr
  · have ht := below_touch hb (fun hm => nomatch hm) hW
    have : l = [] := List.eq_nil_of_length_eq_zero (hl.trans hn)
    subst this
    exact ⟨g, 0, ht.ext (.inl hb.size), ht.winv rfl (.inl hb.size) hW, .empty, .mk_list fun h => by simp at h⟩
  · have h1 := relL_one hrel hcell
    have hx : ∀ k v, xs[k]? = some v → cur[k]? = some v := fun k v hv => by
      rw [← htk, List.getElem?_take] at hv
      split at hv
      · simpa using hv
      · cases hv
    have ht := own_touch hW hb hge hc hx (.ownSlot d 0) h1
    have hpc : ∀ k v, xs[k]? = some v → (g.prot gb xs (.ownSlot d 0) h1).pc gb (0 + k) = some v := fun k v hv => by
      simp only [Gh.prot, if_true, Nat.zero_add]; exact hv
    subst hl
    refine ⟨_, 0, ht.ext (.inl hge), ht.winv rfl (.inl hge) hW, .list hnc hes (hrel.mono ht.le).len (hrel.mono ht.le).at_ hpc, .mk_list fun hlt => ⟨gb, 0, cur, e, rfl, ?_, hc, ?_, ?_⟩⟩
    · simp [Gh.prot]
    · rw [hcs]; omega
    · intro o ho
      simp only [Gh.prot, if_true]
      exact List.getElem?_eq_none (by omega)

/-- A function that makes a new slice, and leaves the old memory as it was. -/
theorem callOK_row {P : Program} {k : FuncId} {args : List DV} {h : DHeap} {size : Nat} {l : List (List DV)} (hes : ∀ r ∈ l, r.length = size) (hcell : l.flatten.all DV.cell = true)
    (H : ∀ (g : Gh) (w : World) (vs : Array Value), WInv g h w → RelL g args vs.toList → Calls P k vs w fun e w' => ∃ v xs t, e = .returned v ∧ Below w.heap.size w w' ∧ w'.ownsRow w.heap.size t size v l.length xs ∧ RelL g l.flatten xs) :
    CallOK P k args h (.list true size l) h := by
  intro d g w vs hW hR
  refine (H g w vs hW hR).mono ?_
  rintro e w' ⟨v, xs, t, rfl, hb, hr, hrel⟩
  obtain ⟨g', s, h1, h2, h3, h4⟩ := own_result (d := d) hW hb hr rfl hes hrel hcell
  exact ⟨g', v, s, rfl, h1, h2, h3, h4⟩
end Go.DS

/-
  A loop over a map, step by step, by what its block holds.
-/
namespace Go.DS
open Go Go.Proofs Go.RowKit Go.Maps Go.ChangeMaps Go.MapKept
set_option linter.unusedVariables false
set_option linter.unusedSimpArgs false

/-- A loop over a map is under way: these entries have come. -/
structure Iter (w : World) (b r : Nat) (ents : Array MapEntry) (clk : Nat) (done : List MapEntry) : Prop where
  map : w.heap[b]? = some (.map ents clk)
  it : ∃ seen c0, w.heap[r]? = some (.mapIter (some b) clk seen c0) ∧ clk ≤ c0 ∧ ∀ e ∈ ents.toList, (seen.contains e.born = true ↔ e ∈ done)
  nodup : (done.map (·.born)).Nodup
  sub : ∀ e ∈ done, e ∈ ents.toList

theorem set_block {w : World} {r : Nat} {o o' : Obj} (h : w.heap[r]? = some o) : (setBlock w r o').heap[r]? = some o' ∧ ∀ j, j ≠ r → (setBlock w r o').heap[j]? = w.heap[j]? := by
  have hlt := (Array.getElem?_eq_some_iff.1 h).1
  constructor
  · simp [setBlock, Array.getElem?_setIfInBounds, hlt]
  · intro j hj
    simp [setBlock, Array.getElem?_setIfInBounds, Ne.symm hj]
theorem stamp_inj {ents : List MapEntry} {clk : Nat} (h : Stamped ents clk) {e f : MapEntry} (he : e ∈ ents) (hf : f ∈ ents) (hb : e.born = f.born) : e = f := by
  obtain ⟨i, hi, rfl⟩ := List.getElem_of_mem he
  obtain ⟨j, hj, rfl⟩ := List.getElem_of_mem hf
  have h2 := h.2
  have : (ents.map (·.born))[i]'(by simpa using hi) = (ents.map (·.born))[j]'(by simpa using hj) := by simpa using hb
  have := (List.getElem_inj h2).1 this
  subst this
  rfl

section
variable {P : Program} {ops : Array Oper} {rest : List Oper} {o : Oper} {a : Act} {Q : Exit → Act → World → Prop} {w : World} {b : Nat} {ents : Array MapEntry} {clk : Nat}

theorem wpList_range_raw (hg : o.guard = none) (m : Operand) (t k e : TypeId) (hop : o.op = .range t m) (ht : P.underlying t = some (.map k e)) (hm : a.eval m = .map (some b)) (hb : w.heap[b]? = some (.map ents clk))
    (hK : Iter (w.alloc (.mapIter (some b) clk #[] clk)) b w.heap.size ents clk [] → wpList P ops Q rest (a.put o.dst (.pointer (some ⟨w.heap.size, 0, none⟩))) (w.alloc (.mapIter (some b) clk #[] clk))) :
    wpList P ops Q (o :: rest) a w := by
  refine wpList_plain hg fun K' hK' => ?_
  have hlt := (Array.getElem?_eq_some_iff.1 hb).1
  unfold Oper.wp
  simp [execOp, hop, hm, Instr.range, run_underlying ht, MapKept.run_getObj_map hb, Result.andThen]
  refine hK' _ _ (hK ⟨(Below.heap_alloc _ _ b hlt).trans hb, ⟨#[], clk, heap_new w _, Nat.le_refl _, fun e he => by simp⟩, by simp, by simp⟩)

theorem wpList_next_raw {r : Nat} {done : List MapEntry} (hg : o.guard = none) (it : Operand) (hop : o.op = .next it false) (hit : a.eval it = .pointer (some ⟨r, 0, none⟩)) (h : Iter w b r ents clk done) (hst : Stamped ents.toList clk)
    (hDone : (∀ e ∈ ents.toList, e ∈ done) → wpList P ops Q rest (a.put o.dst (.tuple #[.bool false])) w)
    (hMore : ∀ e ∈ ents.toList, e ∉ done → ∀ w', Iter w' b r ents clk (done ++ [e]) → w.grownBy w' (some r) → w'.heap.size = w.heap.size → wpList P ops Q rest (a.put o.dst (.tuple #[.bool true, e.key, e.val])) w') :
    wpList P ops Q (o :: rest) a w := by
  refine wpList_plain hg fun K' hK' => ?_
  obtain ⟨hb, ⟨seen, c0, hr, hc, hs⟩, hn, hsub⟩ := h
  have hne : r ≠ b := fun e => by rw [e, hb] at hr; cases hr
  unfold Oper.wp
  rcases run_next_at (P := P) w o.type r b clk c0 seen ents clk hr hb hst.1 hc with ⟨h0, hrun⟩ | ⟨e, he, w1, hal, hrun⟩
  · simp [execOp, hop, hit, hrun, Result.andThen]
    refine hK' _ _ (hDone fun e he => (hs e he).1 ?_)
    exact all_seen ents seen h0 e he
  · obtain ⟨hem, hes⟩ := mem_left he
    have hnd : e ∉ done := fun hd => by rw [(hs e hem).2 hd] at hes; cases hes
    have hr1 : w1.heap[r]? = some (.mapIter (some b) clk seen c0) := by rcases hal with rfl | rfl <;> exact hr
    have hb1 : w1.heap[b]? = some (.map ents clk) := by rcases hal with rfl | rfl <;> exact hb
    have hset := set_block (o' := .mapIter (some b) clk (seen.push e.born) clk) hr1
    simp [execOp, hop, hit, hrun, Result.andThen]
    refine hK' _ _ (hMore e hem hnd _ ⟨(hset.2 b (fun e1 => hne e1.symm)).trans hb1, ⟨_, clk, hset.1, Nat.le_refl _, fun x hx => ?_⟩, ?_, ?_⟩ ?_ ?_)
    · rw [contains_push, Bool.or_eq_true, hs x hx, List.mem_append, List.mem_singleton, beq_iff_eq]
      exact or_congr Iff.rfl ⟨fun hb => stamp_inj hst hx hem hb, fun hb => by rw [hb]⟩
    · rw [List.map_append, List.nodup_append]
      refine ⟨hn, by simp, fun x hx y hy => ?_⟩
      obtain ⟨z, hz, rfl⟩ := List.mem_map.1 hx
      rw [List.map_cons, List.map_nil, List.mem_singleton] at hy
      subst hy
      exact fun e1 => hnd (stamp_inj hst (hsub z hz) hem e1 ▸ hz)
    · intro x hx
      rcases List.mem_append.1 hx with hx | hx
      · exact hsub x hx
      · rw [List.mem_singleton.1 hx]; exact hem
    · rcases hal with rfl | rfl <;> exact ⟨rfl, rfl, rfl, by simp [setBlock], fun i _ hi => hset.2 i (fun e1 => hi (by rw [e1]))⟩
    · rcases hal with rfl | rfl <;> simp [setBlock]
theorem Iter.left_lt {r : Nat} {done : List MapEntry} (h : Iter w b r ents clk done) : done.length ≤ ents.size := by
  have h1 : (done.map (·.born)).length ≤ (ents.toList.map (·.born)).length := by
    refine List.Nodup.length_le_of_subset h.nodup fun x hx => ?_
    obtain ⟨e, he, rfl⟩ := List.mem_map.1 hx
    exact List.mem_map_of_mem (h.sub e he)
  simpa using h1
end
end Go.DS

/-
  maps.Clone, slices.SortFunc, and maps' keys as the evaluator has them.
-/
namespace Go.DS
open Go Go.Proofs Go.Shelf Go.RowKit Go.Sort Go.Maps Go.ChangeMaps Go.MapKept
set_option linter.unusedVariables false
set_option linter.unusedSimpArgs false

theorem rel1 {g : Gh} {d : DV} {vs : Array Value} (h : RelL g [d] vs.toList) : ∃ u, vs = #[u] ∧ RelV g d u := by
  obtain ⟨u, us, h1, hu, h2⟩ := h.cons_inv
  have := h2.nil_inv
  subst this
  exact ⟨u, by rw [← Array.toList_inj]; exact h1, hu⟩
theorem mp_inv {g : Gh} {i : Nat} {v : Value} (h : RelV g (.mp i) v) : i < g.n ∧ v = .map (some (g.η i)) := by
  cases h with
  | mp hi => exact ⟨hi, rfl⟩
theorem ptr_inv {g : Gh} {i off : Nat} {v : Value} (h : RelV g (.ptr i off) v) : i < g.n ∧ v = .pointer (some ⟨g.η i, off, none⟩) := by
  cases h with
  | ptr hi => exact ⟨hi, rfl⟩

theorem clone_ok_of {P : Program} {ρ : Ren} (L : SlLaysW.n5 P ρ) {args : List DV} {h : DHeap} {r : DV} {h' : DHeap} (hx : cloneF args h = some (r, h')) : CallOK P (ρ.f 5) args h r h' := by
  unfold cloneF at hx
  split at hx
  · rename_i h0 i
    split at hx
    · rename_i es hes
      cases hx
      intro d g w vs hW hR
      obtain ⟨u, rfl, hu⟩ := rel1 hR
      obtain ⟨hi, rfl⟩ := mp_inv hu
      obtain ⟨ents, clk, a1, a2, a3, a4, a5⟩ := hW.obj i _ hes
      refine (AnyW.maps_Clone L (g.η i) ents clk w a1).mono ?_
      rintro e w' ⟨rfl, rfl⟩
      have htouch := touch_addObj hW.pc (.map ents clk)
      have hη : (g.addObj w.heap.size).η g.n = w.heap.size := by simp [Gh.addObj]
      have hheld : HeldMap (g.addObj w.heap.size) (w.alloc (.map ents clk)) w.heap.size (.obj g.n) es :=
        ⟨ents, clk, heap_new w _, by simp [Gh.addObj], fun o' => pc_fresh hW.pc (Nat.le_refl _) o', ⟨a4.len, fun k x y hx hy => ⟨(a4.at_ k x y hx hy).1.mono htouch.le, (a4.at_ k x y hx hy).2.mono htouch.le⟩⟩, a5⟩
      refine ⟨_, _, 0, rfl, htouch.ext (.inl (Nat.le_refl _)), winv_push hW (by simp only [RelO, hη]; exact hheld), ?_, .none rfl⟩
      have := RelV.mp (g := g.addObj w.heap.size) (i := g.n) (by simp [Gh.addObj])
      rw [hη, ← hW.n] at this
      exact this
    · cases hx
  · cases hx

/-- A later world, by blocks that came, and by draws. -/
theorem grow_of_below {w w' : World} (hb : Below w.heap.size w w') (hd : w.drawn ≤ w'.drawn) : ∃ q os', w' = grow (w.drewN q) os' := by
  refine ⟨w'.drawn - w.drawn, w'.heap.extract w.heap.size w'.heap.size, ?_⟩
  have hh : w'.heap = w.heap ++ w'.heap.extract w.heap.size w'.heap.size := by
    apply Array.ext_getElem?
    intro k
    rw [Array.getElem?_append]
    by_cases hk : k < w.heap.size
    · rw [if_pos hk, hb.block k hk]
    · rw [if_neg hk, Array.getElem?_extract]
      have := hb.size
      by_cases hk' : k < w'.heap.size
      · rw [if_pos (by omega)]; congr 1; omega
      · rw [if_neg (by omega), Array.getElem?_eq_none (by omega)]
  cases w' with
  | mk heap tape drawn os output =>
    have e1 := hb.os
    have e2 := hb.tape
    have e3 := hb.output
    simp only at e1 e2 e3 hh hd
    simp only [grow, World.drewN, World.mk.injEq]
    exact ⟨hh, e2, by omega, e1, e3⟩

/-- One of these texts. -/
abbrev Of (ks : List Str) := { s : Str // s ∈ ks }
def encO (ks : List Str) (x : Of ks) : Value := .string (mkB x.1)
theorem relL_txt {g : Gh} {a b : Str} : RelL g [txt a, txt b] [Value.string (mkB a), .string (mkB b)] := .cons (.sc _) (.cons (.sc _) (.nil _))
theorem sortC_map {cf : Str → Str → Int} (ks : List Str) (l : List (Of ks)) : (l.mergeSort fun x y => !(ltOf fun (a b : Of ks) => cf a.1 b.1) y x).map (·.1) = sortC cf (l.map (·.1)) := by
  unfold sortC
  exact List.map_mergeSort fun a _ b _ => rfl
theorem SortOK.swo {P : Program} {o : FuncId} {cf : Str → Str → Int} {ks : List Str} (H : SortOK P o cf ks) : SWO (ltOf fun (a b : Of ks) => cf a.1 b.1) where
  irrefl x := by simp only [ltOf, decide_eq_false_iff_not]; exact H.irrefl x.1 x.2
  trans x y z := by simp only [ltOf, decide_eq_true_eq]; exact H.trans x.1 x.2 y.1 y.2 z.1 z.2
  ntrans x y z := by simp only [ltOf, decide_eq_false_iff_not]; exact H.ntrans x.1 x.2 y.1 y.2 z.1 z.2
/-- Sorted it is the same in whatever order it came. -/
theorem sortC_perm {P : Program} {o : FuncId} {cf : Str → Str → Int} {ks l : List Str} (H : SortOK P o cf ks) (hp : l.Perm ks) : sortC cf l = sortC cf ks := by
  have hm : ∀ x ∈ l, x ∈ ks := fun x hx => hp.mem_iff.1 hx
  unfold sortC
  have htr : ∀ a ∈ ks, ∀ b ∈ ks, ∀ c ∈ ks, (!decide (cf b a < 0)) = true → (!decide (cf c b < 0)) = true → (!decide (cf c a < 0)) = true := fun a ha b hb c hc => by
    simp only [Bool.not_eq_true', decide_eq_false_iff_not]
    exact fun h1 h2 => H.ntrans c hc b hb a ha h2 h1
  have htot : ∀ a ∈ ks, ∀ b ∈ ks, ((!decide (cf b a < 0)) || (!decide (cf a b < 0))) = true := fun a ha b hb => by
    by_cases h1 : cf b a < 0
    · by_cases h2 : cf a b < 0
      · exact absurd (H.trans a ha b hb a ha h2 h1) (H.irrefl a ha)
      · simp [h2]
    · simp [h1]
  have s1 : ∀ m : List Str, (∀ x ∈ m, x ∈ ks) → (m.mergeSort fun x y => !decide (cf y x < 0)).Pairwise fun a b => (!decide (cf b a < 0)) = true := fun m hm => by
    have e : m = (m.attachWith (· ∈ ks) hm).map (·.1) := by simp
    rw [e, ← List.map_mergeSort (r := fun (x y : Of ks) => !decide (cf y.1 x.1 < 0)) (fun a _ b _ => rfl), List.pairwise_map]
    exact List.pairwise_mergeSort (fun a b c => htr a.1 a.2 b.1 b.2 c.1 c.2) (fun a b => htot a.1 a.2 b.1 b.2) _
  refine List.Perm.eq_of_pairwise ?_ (s1 l hm) (s1 ks fun _ hx => hx) ((List.mergeSort_perm l _).trans (hp.trans (List.mergeSort_perm ks _).symm))
  intro a b ha hb h1 h2
  have ha' := hm a ((List.mergeSort_perm l _).mem_iff.1 ha)
  have hb' := (List.mergeSort_perm ks _).mem_iff.1 hb
  simp only [Bool.not_eq_true', decide_eq_false_iff_not] at h1 h2
  exact H.total a ha' b hb' h2 h1
end Go.DS

/-
  slices.SortFunc over a list of texts that the call owns.
-/
namespace Go.DS
open Go Go.Proofs Go.Shelf Go.RowKit Go.Sort Go.Maps Go.ChangeMaps Go.MapKept
set_option linter.unusedVariables false
set_option linter.unusedSimpArgs false
abbrev txtV (s : Str) : Value := .string (mkB s)
theorem enters_ok {P : Program} {k : FuncId} (h : calleeOK P k = true) (args : Array Value) (w : World) : (callFunc k args).run P w = .ok (.enter k args) w := by
  unfold calleeOK at h
  cases hf : P.funcs[k]? with
  | none => rw [hf] at h; cases h
  | some fn =>
    rw [hf] at h
    simp only [Bool.and_eq_true, Bool.not_eq_true', Option.isSome_iff_exists] at h
    obtain ⟨⟨c, hb⟩, hne⟩ := h
    have hne' : ¬ (fn.name = "runtime.NumGoroutine") := by simpa using hne
    simp [callFunc, hf, hb, hne']
theorem cmp_lays {P : Program} {o : FuncId} {cf : Str → Str → Int} {ks : List Str} [Inhabited (Of ks)] (H : SortOK P o cf ks) (blk off size : Nat) (w : World) : CmpLays1 P o #[] (encO ks) (fun a b => cf a.1 b.1) blk off size w := by
  intro m os dk _ x y
  generalize sortWorld (encO ks) w blk off m dk os = W
  refine (@startM ⟨true⟩ P o _ _ (H.call x.1 x.2 y.1 y.2) (#[encO ks x, encO ks y] ++ #[]) W relL_txt).mono ?_
  rintro e w' ⟨rfl, hb, hd⟩
  exact ⟨rfl, grow_of_below hb (hd rfl)⟩
theorem heap_sortWorld {α : Type} [Inhabited α] {enc : α → Value} {w : World} {b n : Nat} {d : Array α} {os : Array Obj} {cur : Array Value} {e : TypeId} (h : w.heap[b]? = some (.cells cur e (0, 0))) :
    (sortWorld enc w b 0 n d os).heap[b]? = some (.cells (Sort.putCells enc 0 d cur) e (0, 0)) ∧ (∀ k, k < w.heap.size → k ≠ b → (sortWorld enc w b 0 n d os).heap[k]? = w.heap[k]?) ∧ w.heap.size ≤ (sortWorld enc w b 0 n d os).heap.size := by
  have hlt := (Array.getElem?_eq_some_iff.1 h).1
  have e0 : (sortWorld enc w b 0 n d os).heap = w.heap.modify b (onCells (Sort.putCells enc 0 d)) ++ os := rfl
  rw [e0]
  refine ⟨?_, fun k hk hne => ?_, by simp⟩
  · rw [Array.getElem?_append, if_pos (by simpa using hlt), Array.getElem?_modify, if_pos rfl, h]; rfl
  · rw [Array.getElem?_append, if_pos (by simpa using hk), Array.getElem?_modify, if_neg (Ne.symm hne)]
theorem take_put {α : Type} [Inhabited α] {enc : α → Value} {d : List α} {cur : Array Value} (h : d.length ≤ cur.size) : (Sort.putCells enc 0 d.toArray cur).toList.take d.length = d.map enc := by
  apply List.ext_getElem?
  intro j
  rw [List.getElem?_take, List.getElem?_map]
  by_cases hj : j < d.length
  · rw [if_pos hj, Array.getElem?_toList, Sort.putCells, Array.getElem?_mapIdx, Array.getElem?_eq_getElem (by omega)]
    simp [hj, getElem!_pos]
  · rw [if_neg hj, List.getElem?_eq_none (by omega)]; rfl
theorem sort_row {P : Program} {ρ : Ren} (L : SlLaysF.n6 P ρ) {o : FuncId} {cf : Str → Str → Int} {l : List Str} (H : SortOK P o cf l) {w : World} {base : Nat} {e : TypeId} {v : Value} (hr : w.ownsRow base e 1 v l.length (l.map txtV)) (hl : l.length < 4611686018427387904) :
    Calls P (ρ.f 6) #[v, .func (.func o) #[] #[]] w fun x w' => x = .returned (.tuple #[]) ∧ w'.ownsRow base e 1 v l.length ((sortC cf l).map txtV) ∧ Below base w w' := by
  have hr0 := hr
  obtain ⟨hxl, ⟨rfl, hn⟩ | ⟨gb, cap, cur, rfl, hge, hc, hnc, hm, hcs, htk⟩⟩ := hr
  · have : l = [] := List.eq_nil_of_length_eq_zero hn
    subst this
    refine (AnyF.slices_SortFunc_none (P := P) (ρ := ρ) { L with } none 0 _ w).mono ?_
    rintro x w' ⟨rfl, rfl⟩
    exact ⟨rfl, by simpa [sortC] using hr0, .refl _ _⟩
  · cases l with
    | nil =>
      refine (AnyF.slices_SortFunc_none (P := P) (ρ := ρ) { L with } _ cap _ w).mono ?_
      rintro x w' ⟨rfl, rfl⟩
      exact ⟨rfl, by simpa [sortC] using hr0, .refl _ _⟩
    | cons s0 l0 =>
      generalize hks : s0 :: l0 = ks at *
      have hin : s0 ∈ ks := by rw [← hks]; exact List.mem_cons_self
      letI : Inhabited (Of ks) := ⟨⟨s0, hin⟩⟩
      have hmap : (ks.attachWith (· ∈ ks) fun _ h => h).map (·.1) = ks := by simp
      generalize hd : ks.attachWith (· ∈ ks) (fun _ h => h) = d at hmap
      have hdl : d.length = ks.length := by have := congrArg List.length hmap; simpa using this
      have hH : Holds (encO ks) w gb 0 d.toArray := by
        intro j hj
        have hj' : j < d.length := by simpa using hj
        refine ⟨?_, by simp [World.frozen?, hc]⟩
        have h1 := congrArg (·[j]?) htk
        simp only [Nat.mul_one] at h1
        rw [List.getElem?_take_of_lt (by omega), Array.getElem?_toList, List.getElem?_map, ← hmap, List.getElem?_map, List.getElem?_eq_getElem hj'] at h1
        simp only [Option.map_some] at h1
        simp only [World.cell?, hc, Nat.zero_add, h1]
        simp [encO, hj', getElem!_pos]
      have hgl : gb < w.heap.size := (Array.getElem?_eq_some_iff.1 hc).1
      have := Any.slices_SortFunc_total (L := L) (encO ks) (fun x => rfl) (fun a b => cf a.1 b.1) H.swo o #[] gb 0 cap d.toArray w (enters_ok H.callee) (cmp_lays H gb 0 d.toArray.size w) hH hgl (by simpa [hdl] using hl) (fun x y h1 h2 => by
        simp only [ltOf, decide_eq_false_iff_not] at h1 h2
        exact Subtype.ext (H.total x.1 x.2 y.1 y.2 h1 h2))
      simp only [List.size_toArray, hdl] at this
      refine Calls.mono this ?_
      rintro x w' ⟨rfl, n, os, rfl⟩
      obtain ⟨q1, q2, q3⟩ := heap_sortWorld (enc := encO ks) (n := n) (d := (d.mergeSort fun x y => !(ltOf fun (a b : Of ks) => cf a.1 b.1) y x).toArray) (os := os) hc
      have hsl : (d.mergeSort fun x y => !(ltOf fun (a b : Of ks) => cf a.1 b.1) y x).length = ks.length := by rw [List.length_mergeSort, hdl]
      have hs := sortC_map (cf := cf) ks d
      rw [hmap] at hs
      refine ⟨rfl, ⟨by simp [sortC, List.length_mergeSort], .inr ⟨gb, cap, _, rfl, hge, q1, hnc, hm, by simp [Sort.putCells, hcs], ?_⟩⟩, ⟨rfl, rfl, rfl, q3, fun k hk => q2 k (by omega) (by omega)⟩⟩
      rw [Nat.mul_one, ← hsl, take_put (by omega), ← hs, List.map_map]
      rfl
end Go.DS

/-
  A map's keys, as the kit's iterators want them.
-/
namespace Go.DS
open Go Go.Proofs Go.Shelf Go.RowKit Go.Sort Go.Maps Go.ChangeMaps Go.MapKept
set_option linter.unusedVariables false
set_option linter.unusedSimpArgs false
def strV : Value → Str
  | .string b => b.data.toList
  | _ => []
theorem keys_vals {g : Gh} {es : List (DV × DV)} {ents : List MapEntry} {ks : List Str} (hE : RelE g es ents) (hK : es.map (·.1) = ks.map txt) : ents.map (·.key) = ks.map txtV := by
  have hl : es.length = ks.length := by have := congrArg List.length hK; simpa using this
  apply List.ext_getElem?
  intro i
  rw [List.getElem?_map, List.getElem?_map]
  by_cases hi : i < ks.length
  · have hi1 : i < es.length := by omega
    have hi2 : i < ents.length := by have := hE.len; omega
    rw [List.getElem?_eq_getElem hi, List.getElem?_eq_getElem hi2]
    have := (hE.at_ i _ _ (List.getElem?_eq_getElem hi1) (List.getElem?_eq_getElem hi2)).1
    have hk := congrArg (·[i]?) hK
    simp only [List.getElem?_map, List.getElem?_eq_getElem hi, List.getElem?_eq_getElem hi1, Option.map_some, Option.some.injEq] at hk
    rw [hk] at this
    rw [Option.map_some, Option.map_some, sc_inv this]
  · rw [List.getElem?_eq_none (by have := hE.len; omega), List.getElem?_eq_none (by omega)]; rfl
theorem txtV_inj {a b : Str} (h : txtV a = txtV b) : a = b := by
  have := congrArg strV h
  exact this
theorem keys_own {P : Program} {g : Gh} {w : World} {b : Nat} {es : List (DV × DV)} {ents : Array MapEntry} {clk : Nat} {ks : List Str} {kt : TypeId} (hk : P.underlying kt = some .string) (hE : RelE g es ents.toList) (hK : KeysOK es ks)
    (hst : DS.Stamped ents.toList clk) (hb : w.heap[b]? = some (.map ents clk)) :
    ∃ D0 : DataW Unit, w.ownsMap P kt (fun _ => some (.lit (.bool true), [])) b ks.length D0 ∧ (strKeys D0).Perm ks ∧ Maps.size D0 = ks.length := by
  have hv := keys_vals hE hK.keys
  have hl : ents.size = ks.length := by have := congrArg List.length hv; simpa using this
  have hx : ∀ x ∈ ents.toList, ∃ s ∈ ks, x.key = txtV s := fun x hx => by
    have : x.key ∈ ks.map txtV := by rw [← hv]; exact List.mem_map_of_mem (f := (·.key)) hx
    obtain ⟨s, hs, he⟩ := List.mem_map.1 this
    exact ⟨s, hs, he.symm⟩
  have hrd : ∀ x ∈ ents.toList, Go.WideElems.rd P kt (fun _ => some ((.lit (.bool true) : DataW Unit), [])) x = some (.string (strV x.key), .lit (.bool true)) := fun x hx' => by
    obtain ⟨s, hs, he⟩ := hx x hx'
    have hsz : (mkB s).size ≤ maxLen := by
      have := hK.lens s hs
      show s.toArray.size ≤ _
      simp only [List.size_toArray, maxLen]; omega
    unfold Go.WideElems.rd
    have : keyOf P kt (txtV s) = some (.string s) := by
      simp only [keyOf, hk, mapKey, txtV, hsz, if_true]
      rfl
    rw [he, this]
    rfl
  have hm : (ents.toList.map (Go.WideElems.rg P kt fun _ => some ((.lit (.bool true) : DataW Unit), []))).map (fun p => strOf p.1) = ks := by
    rw [List.map_map]
    have : ents.toList.map ((fun p : Lit × DataW Unit => strOf p.1) ∘ Go.WideElems.rg P kt fun _ => some ((.lit (.bool true) : DataW Unit), [])) = (ents.toList.map (·.key)).map strV := by
      rw [List.map_map]
      refine List.map_congr_left fun x hx' => ?_
      simp only [Function.comp, Go.WideElems.rg, hrd x hx', Option.getD_some, strOf]
    rw [this, hv, List.map_map]
    exact (List.map_congr_left fun s _ => rfl).trans (List.map_id ks)
  refine ⟨_, ⟨ents, clk, hb, ⟨?_, ⟨hst.1, hst.2, ?_⟩, fun x hx' => ⟨_, hrd x hx'⟩⟩, by omega, rfl⟩, ?_, ?_⟩
  · have := hK.len; simp only [maxLen]; omega
  · rw [hv]; exact List.Pairwise.map _ (fun a b h e => h (txtV_inj e)) hK.nodup
  · simp only [strKeys]
    rw [← hm]
    exact (Go.WideShapes.sorted_perm _).map _
  · simp only [Maps.size]
    rw [(Go.WideShapes.sorted_perm _).length_eq, List.length_map, ← hl]
    rfl
end Go.DS

/-
  The kit's contracts of slices.SortFunc, slices.Collect, maps.Keys, maps.Clone, over this program; slices.SortedFunc of maps.Keys.
-/
namespace Go.DS
open Go Go.Proofs Go.Shelf Go.RowKit Go.Sort Go.Maps Go.ChangeMaps Go.MapKept
set_option linter.unusedVariables false
set_option linter.unusedSimpArgs false
theorem relL_ts {g : Gh} (l : List Str) : RelL g (ts l).flatten (l.map txtV) := by
  have : (ts l).flatten = l.map txt := by
    induction l with
    | nil => rfl
    | cons s l ih => simp only [ts, List.map_cons, List.flatten_cons] at ih ⊢; rw [ih]; rfl
  rw [this]
  refine ⟨by simp, fun k d v h1 h2 => ?_⟩
  rw [List.getElem?_map] at h1 h2
  cases h3 : l[k]? with
  | none => rw [h3] at h1; cases h1
  | some s => rw [h3] at h1 h2; cases h1; cases h2; exact .sc _
theorem cell_ts (l : List Str) : (ts l).flatten.all DV.cell = true := by
  simp only [List.all_eq_true, List.mem_flatten]
  rintro d ⟨r, hr, hd⟩
  obtain ⟨s, _, rfl⟩ := List.mem_map.1 hr
  rw [List.mem_singleton.1 hd]; rfl
theorem one_ts (l : List Str) : ∀ r ∈ ts l, r.length = 1 := by
  intro r hr
  obtain ⟨s, _, rfl⟩ := List.mem_map.1 hr
  rfl
theorem fn_inv0 {g : Gh} {f : Fn} {d : DV} {v : Value} (h : RelV g (.fn f [] [d]) v) : ∃ u, v = .func f #[] #[u] ∧ RelV g d u := by
  obtain ⟨gs, ds, rfl, h1, h2⟩ := fn_inv h
  have := h1.nil_inv
  subst this
  obtain ⟨u, us, rfl, hu, h3⟩ := h2.cons_inv
  have := h3.nil_inv
  subst this
  exact ⟨u, rfl, hu⟩
theorem fn_inv00 {g : Gh} {f : Fn} {v : Value} (h : RelV g (.fn f [] []) v) : v = .func f #[] #[] := by
  obtain ⟨gs, ds, rfl, h1, h2⟩ := fn_inv h
  have := h1.nil_inv
  subst this
  have := h2.nil_inv
  subst this
  rfl
/-- A cell of an object that holds a map. -/
theorem map_box {g : Gh} {h : DHeap} {w : World} (hW : WInv g h w) {i j : Nat} (hi : h[i]? = some (.cells [.mp j])) : w.cell? ⟨g.η i, 0, none⟩ = some (.map (some (g.η j))) := by
  obtain ⟨us, et, a1, a2, a3, a4, a5⟩ := hW.obj i _ hi
  obtain ⟨u, us', h1, hu, h2⟩ := a4.cons_inv
  obtain ⟨_, rfl⟩ := mp_inv hu
  have : us[0]? = some (.map (some (g.η j))) := by rw [← Array.getElem?_toList, h1]; rfl
  simp [World.cell?, a1, this]
end Go.DS

/-
  slices.SortFunc over a list of instances (three cells each) that the call owns.
-/
namespace Go.DS
open Go Go.Proofs Go.Shelf Go.RowKit Go.Sort Go.Maps Go.ChangeMaps Go.MapKept
set_option linter.unusedVariables false
set_option linter.unusedSimpArgs false
instance : Inhabited Id := ⟨⟨0, 0, 0⟩⟩
def encI (x : Id) : List Value := [.int .i64 x.e, .int .i64 x.n, .int .i64 x.k]
theorem encI_len (x : Id) : (encI x).length = 3 := rfl
theorem flat3 (l : List Id) (t : Nat) (h : t < l.length * 3) : (l.flatMap encI)[t]? = some ((encI l[t / 3]!)[t % 3]!) := by
  induction l generalizing t with
  | nil => simp at h
  | cons x l ih =>
    rw [List.flatMap_cons, List.getElem?_append]
    by_cases h3 : t < 3
    · rw [if_pos (by rw [encI_len]; exact h3)]
      have h0 : t / 3 = 0 := by omega
      have h1 : t % 3 = t := by omega
      rw [h0, h1, List.getElem!_cons_zero]
      rw [List.getElem?_eq_getElem (by rw [encI_len]; exact h3), getElem!_pos (encI x) t (by rw [encI_len]; exact h3)]
    · rw [if_neg (by rw [encI_len]; exact h3), encI_len]
      have h0 : t / 3 = (t - 3) / 3 + 1 := by omega
      have h1 : t % 3 = (t - 3) % 3 := by omega
      rw [ih (t - 3) (by simp only [List.length_cons] at h; omega), h0, h1, List.getElem!_cons_succ]
theorem flat3_len (l : List Id) : (l.flatMap encI).length = l.length * 3 := by
  induction l with
  | nil => rfl
  | cons x l ih => rw [List.flatMap_cons, List.length_append, ih, encI_len, List.length_cons]; omega
theorem flatI_eq (l : List Id) : Go.Sort.flatK encI 3 l.toArray = (l.flatMap encI).toArray := by
  apply Array.ext_getElem?
  intro t
  by_cases h : t < l.length * 3
  · have hs : t < (Go.Sort.flatK encI 3 l.toArray).size := by simpa using h
    rw [Array.getElem?_eq_getElem hs, ← getElem!_pos _ t hs, get_flatK _ _ _ _ (by simpa using h)]
    rw [List.getElem?_toArray, flat3 l t h]
    simp
  · rw [Array.getElem?_eq_none (by simpa using h), Array.getElem?_eq_none (by rw [List.size_toArray, flat3_len]; omega)]
theorem relL_id2 {g : Gh} {a b : Id} : RelL g [.agg [num a.e, num a.n, num a.k], .agg [num b.e, num b.n, num b.k]] [Value.agg (encI a).toArray, .agg (encI b).toArray] :=
  .cons (.agg rfl fun k d v h1 h2 => by
    match k with
    | 0 => cases h1; cases h2; exact .sc _
    | 1 => cases h1; cases h2; exact .sc _
    | 2 => cases h1; cases h2; exact .sc _
    | _ + 3 => cases h1) (.cons (.agg rfl fun k d v h1 h2 => by
    match k with
    | 0 => cases h1; cases h2; exact .sc _
    | 1 => cases h1; cases h2; exact .sc _
    | 2 => cases h1; cases h2; exact .sc _
    | _ + 3 => cases h1) (.nil _))
theorem swoI : SWO (ltOf ordI) where
  irrefl x := by simp only [ltOf, decide_eq_false_iff_not]; exact ordI_total.irrefl x
  trans x y z := by simp only [ltOf, decide_eq_true_eq]; exact ordI_total.trans x y z
  ntrans x y z := by simp only [ltOf, decide_eq_false_iff_not]; exact ordI_total.ntrans x y z
theorem cmpI_lays {P : Program} {o : FuncId} (H : OrdIOK P o) (blk off size : Nat) (w : World) : CmpLays P o #[] encI 3 ordI blk off size w := by
  intro m os dk _ x y
  generalize sortWorldK encI 3 w blk off m dk os = W
  have hc := @startM ⟨true⟩ P o _ _ (H.call x y) #[.agg (encI x).toArray, .agg (encI y).toArray] W relL_id2
  rw [Array.append_empty]
  refine hc.mono ?_
  rintro e w' ⟨rfl, hb, hd⟩
  exact ⟨rfl, grow_of_below hb (hd rfl)⟩
theorem heap_sortWorldK {w : World} {b n : Nat} {d : Array Id} {os : Array Obj} {cur : Array Value} {e : TypeId} (h : w.heap[b]? = some (.cells cur e (0, 0))) :
    (sortWorldK encI 3 w b 0 n d os).heap[b]? = some (.cells (Sort.putCells id 0 (Go.Sort.flatK encI 3 d) cur) e (0, 0)) ∧ (∀ k, k < w.heap.size → k ≠ b → (sortWorldK encI 3 w b 0 n d os).heap[k]? = w.heap[k]?) ∧ w.heap.size ≤ (sortWorldK encI 3 w b 0 n d os).heap.size := by
  have hlt := (Array.getElem?_eq_some_iff.1 h).1
  have e0 : (sortWorldK encI 3 w b 0 n d os).heap = w.heap.modify b (onCells (Sort.putCells id 0 (Go.Sort.flatK encI 3 d))) ++ os := rfl
  rw [e0]
  refine ⟨?_, fun k hk hne => ?_, by simp⟩
  · rw [Array.getElem?_append, if_pos (by simpa using hlt), Array.getElem?_modify, if_pos rfl, h]; rfl
  · rw [Array.getElem?_append, if_pos (by simpa using hk), Array.getElem?_modify, if_neg (Ne.symm hne)]
theorem sortD_row {P : Program} {ρ : Ren} (L : SlLaysF0.n6 P ρ) (aE : ∀ w, (isAgg (ρ.t 24)).run P w = .ok true w) (zE : ∀ w, (Go.sizeOf (ρ.t 24)).run P w = .ok 3 w) {o : FuncId} (H : OrdIOK P o) {l : List Id} {w : World} {base : Nat} {e : TypeId} {v : Value}
    (hr : w.ownsRow base e 3 v l.length (l.flatMap encI)) (hl : l.length < 4611686018427387904) :
    Calls P (ρ.f 6) #[v, .func (.func o) #[] #[]] w fun x w' => x = .returned (.tuple #[]) ∧ w'.ownsRow base e 3 v l.length ((sortD l).flatMap encI) ∧ Below base w w' := by
  have hr0 := hr
  obtain ⟨hxl, ⟨rfl, hn⟩ | ⟨gb, cap, cur, rfl, hge, hc, hnc, hm, hcs, htk⟩⟩ := hr
  · have : l = [] := List.eq_nil_of_length_eq_zero hn
    subst this
    refine (AnyF.slices_SortFunc_none (P := P) (ρ := ρ) L none 0 _ w).mono ?_
    rintro x w' ⟨rfl, rfl⟩
    exact ⟨rfl, by simpa [sortD] using hr0, .refl _ _⟩
  · have hfl := flat3_len l
    have hH : HoldsK encI 3 w gb 0 l.toArray := by
      intro j hj
      have hj' : j < l.length * 3 := by simpa using hj
      refine ⟨?_, by simp [World.frozen?, hc]⟩
      have h1 := congrArg (·[j]?) htk
      rw [List.getElem?_take_of_lt (by omega), Array.getElem?_toList] at h1
      simp only [World.cell?, hc, Nat.zero_add, h1]
      rw [flatI_eq]
      have hjj : j < (l.flatMap encI).length := by omega
      rw [List.getElem?_eq_getElem hjj]
      rw [id_eq]; simp [List.getElem?_eq_getElem hjj]
    have hgl : gb < w.heap.size := (Array.getElem?_eq_some_iff.1 hc).1
    have := AnyQ.slices_SortFunc_total (L := L) 3 aE zE encI encI_len (fun x v hv => by
      simp only [encI, List.mem_cons, List.not_mem_nil, or_false] at hv
      rcases hv with rfl | rfl | rfl <;> rfl) ordI swoI o #[] gb 0 cap l.toArray w (enters_ok H.callee) (cmpI_lays H gb 0 l.toArray.size w) hH hgl (by simpa using hl) (fun x y h1 h2 => by
      simp only [ltOf, decide_eq_false_iff_not] at h1 h2
      exact ordI_total.total x y h1 h2)
    simp only [List.size_toArray] at this
    refine Calls.mono this ?_
    rintro x w' ⟨rfl, n, os, rfl⟩
    have hsd : (l.mergeSort fun x y => !(ltOf ordI) y x) = sortD l := rfl
    rw [hsd]
    obtain ⟨q1, q2, q3⟩ := heap_sortWorldK (n := n) (d := (sortD l).toArray) (os := os) hc
    rw [flatI_eq] at q1
    have hsl := sortD_len l
    have hsf : ((sortD l).flatMap encI).length = l.length * 3 := by rw [flat3_len, hsl]
    refine ⟨rfl, ⟨by rw [hsf], .inr ⟨gb, cap, _, rfl, hge, q1, hnc, hm, by simp [Sort.putCells, hcs], ?_⟩⟩, ⟨rfl, rfl, rfl, q3, fun k hk => q2 k (by omega) (by omega)⟩⟩
    have ht := take_put (enc := id) (d := (sortD l).flatMap encI) (cur := cur) (by rw [hsf, hcs]; omega)
    rw [hsf] at ht
    rw [ht, List.map_id]
end Go.DS

/-
  maps.Keys of a map whose keys are instances, and slices.Collect of it: over any program.
-/
namespace Go.DS
open Go Go.Proofs Go.Shelf Go.RowKit Go.Sort Go.Maps Go.ChangeMaps Go.MapKept
set_option linter.unusedVariables false
set_option linter.unusedSimpArgs false
/-- An instance, as a value. -/
def idVal (x : Id) : Value := .agg (encI x).toArray
def idOf : Value → Id
  | .agg vs => match vs[0]?, vs[1]?, vs[2]? with
    | some (Value.int _ a), some (Value.int _ b), some (Value.int _ c) => ⟨a, b, c⟩
    | _, _, _ => ⟨0, 0, 0⟩
  | _ => ⟨0, 0, 0⟩
theorem idOf_val (x : Id) : idOf (idVal x) = x := rfl
theorem Iter.walks {w w' : World} {b r : Nat} {ents : Array MapEntry} {clk : Nat} {done : List MapEntry} (h : Iter w b r ents clk done) (hk : KeepsWalks w w') : Iter w' b r ents clk done := by
  obtain ⟨h1, ⟨seen, c0, hr, rest⟩, h3, h4⟩ := h
  exact ⟨hk.same b _ h1 rfl, ⟨seen, c0, hk.same r _ hr rfl, rest⟩, h3, h4⟩
section
variable {F : Fence} {n : Nat} {P : Program} {ops : Array Oper} {rest : List Oper} {o : Oper} {a : Act} {Q : Exit → Act → World → Prop} {w : World} {b : Nat} {ents : Array MapEntry} {clk : Nat}
theorem wpListIn_range_raw (hg : o.guard = none) (m : Operand) (t k e : TypeId) (hop : o.op = .range t m) (ht : P.underlying t = some (.map k e)) (hm : a.eval m = .map (some b)) (hb : w.heap[b]? = some (.map ents clk))
    (hK : Iter (w.alloc (.mapIter (some b) clk #[] clk)) b w.heap.size ents clk [] → wpListIn F n P ops Q rest (a.put o.dst (.pointer (some ⟨w.heap.size, 0, none⟩))) (w.alloc (.mapIter (some b) clk #[] clk))) :
    wpListIn F n P ops Q (o :: rest) a w := by
  refine wpListIn_plain hg fun K' hK' => ?_
  have hlt := (Array.getElem?_eq_some_iff.1 hb).1
  unfold Oper.wpIn
  refine ⟨by simp [Oper.about, hop], ?_⟩
  rw [Oper.semAt_plain F _ _ (by rw [hop]; intro c hc'; cases hc')]
  simp [execOp, hop, hm, Instr.range, run_underlying ht, MapKept.run_getObj_map hb, Result.andThen]
  refine hK' _ _ (hK ⟨(Below.heap_alloc _ _ b hlt).trans hb, ⟨#[], clk, heap_new w _, Nat.le_refl _, fun e he => by simp⟩, by simp, by simp⟩)
theorem wpListIn_next_raw {r : Nat} {done : List MapEntry} (hg : o.guard = none) (it : Operand) (hop : o.op = .next it false) (hit : a.eval it = .pointer (some ⟨r, 0, none⟩)) (h : Iter w b r ents clk done) (hst : DS.Stamped ents.toList clk)
    (hDone : (∀ e ∈ ents.toList, e ∈ done) → wpListIn F n P ops Q rest (a.put o.dst (.tuple #[.bool false])) w)
    (hMore : ∀ e ∈ ents.toList, e ∉ done → ∀ w', Iter w' b r ents clk (done ++ [e]) → w.grownBy w' (some r) → w'.heap.size = w.heap.size → (Instr.entry (.pointer (some ⟨r, 0, none⟩))).run P w' = .ok (.tuple #[e.key, e.val]) w' → wpListIn F n P ops Q rest (a.put o.dst (.tuple #[.bool true, e.key, e.val])) w') :
    wpListIn F n P ops Q (o :: rest) a w := by
  refine wpListIn_plain hg fun K' hK' => ?_
  obtain ⟨hb, ⟨seen, c0, hr, hc, hs⟩, hn, hsub⟩ := h
  have hne : r ≠ b := fun e => by rw [e, hb] at hr; cases hr
  unfold Oper.wpIn
  refine ⟨by simp [Oper.about, hop], ?_⟩
  rw [Oper.semAt_plain F _ _ (by rw [hop]; intro c hc'; cases hc')]
  rcases run_next_at (P := P) w o.type r b clk c0 seen ents clk hr hb hst.1 hc with ⟨h0, hrun⟩ | ⟨e, he, w1, hal, hrun⟩
  · simp [execOp, hop, hit, hrun, Result.andThen]
    refine hK' _ _ (hDone fun e he => (hs e he).1 ?_)
    exact all_seen ents seen h0 e he
  · obtain ⟨hem, hes⟩ := mem_left he
    have hnd : e ∉ done := fun hd => by rw [(hs e hem).2 hd] at hes; cases hes
    have hr1 : w1.heap[r]? = some (.mapIter (some b) clk seen c0) := by rcases hal with rfl | rfl <;> exact hr
    have hb1 : w1.heap[b]? = some (.map ents clk) := by rcases hal with rfl | rfl <;> exact hb
    have hset := set_block (o' := .mapIter (some b) clk (seen.push e.born) clk) hr1
    simp [execOp, hop, hit, hrun, Result.andThen]
    refine hK' _ _ (hMore e hem hnd _ ⟨(hset.2 b (fun e1 => hne e1.symm)).trans hb1, ⟨_, clk, hset.1, Nat.le_refl _, fun x hx => ?_⟩, ?_, ?_⟩ ?_ ?_ (run_entry_at _ r b clk seen ents clk e hset.1 ((hset.2 b (fun e1 => hne e1.symm)).trans hb1) (by simpa using hem) hst.2))
    · rw [contains_push, Bool.or_eq_true, hs x hx, List.mem_append, List.mem_singleton, beq_iff_eq]
      exact or_congr Iff.rfl ⟨fun hb => stamp_inj hst hx hem hb, fun hb => by rw [hb]⟩
    · rw [List.map_append, List.nodup_append]
      refine ⟨hn, by simp, fun x hx y hy => ?_⟩
      obtain ⟨z, hz, rfl⟩ := List.mem_map.1 hx
      rw [List.map_cons, List.map_nil, List.mem_singleton] at hy
      subst hy
      exact fun e1 => hnd (stamp_inj hst (hsub z hz) hem e1 ▸ hz)
    · intro x hx
      rcases List.mem_append.1 hx with hx | hx
      · exact hsub x hx
      · rw [List.mem_singleton.1 hx]; exact hem
    · rcases hal with rfl | rfl <;> exact ⟨rfl, rfl, rfl, by simp [setBlock], fun i _ hi => hset.2 i (fun e1 => hi (by rw [e1]))⟩
    · rcases hal with rfl | rfl <;> simp [setBlock]
end
theorem nodup_map {α β : Type} (f : α → β) {l : List α} (h : (l.map f).Nodup) : l.Nodup := (List.pairwise_map.1 h).imp fun hne e => hne (congrArg f e)
theorem filter_both {α : Type} (p : α → Bool) : ∀ l : List α, (l.filter p).length + (l.filter fun x => !p x).length = l.length
  | [] => rfl
  | x :: l => by
    have := filter_both p l
    cases h : p x <;> simp [List.filter_cons, h] <;> omega
theorem Iter.left_eq {w : World} {b r : Nat} {ents : Array MapEntry} {clk : Nat} {done : List MapEntry} (h : Iter w b r ents clk done) (hst : DS.Stamped ents.toList clk) : w.rangeLeft b r + done.length = ents.size := by
  obtain ⟨hb, ⟨seen, c0, hr, hc, hs⟩, hn, hsub⟩ := h
  simp only [World.rangeLeft, hb, hr, leftOf]
  have e1 : (ents.filter fun e => !seen.contains e.born).size = (ents.toList.filter fun e => !seen.contains e.born).length := by rw [← Array.length_toList, Array.toList_filter]
  have n1 : ents.toList.Nodup := nodup_map _ hst.2
  have n2 : done.Nodup := nodup_map _ hn
  have e2 : (ents.toList.filter fun e => seen.contains e.born).Perm done := by
    rw [List.perm_ext_iff_of_nodup (n1.sublist List.filter_sublist) n2]
    intro e
    rw [List.mem_filter]
    exact ⟨fun ⟨h1, h2⟩ => (hs e h1).1 h2, fun h1 => ⟨hsub e h1, (hs e (hsub e h1)).2 h1⟩⟩
  have e3 := filter_both (fun e : MapEntry => seen.contains e.born) ents.toList
  rw [e1, ← e2.length_eq, Nat.add_comm, e3, Array.length_toList]
theorem cell_new (w : World) (vs : List Value) (t : TypeId) (j : Nat) : (w.alloc (.cells vs.toArray t)).cell? ⟨w.heap.size, j, none⟩ = vs[j]? := by
  have h1 : (w.alloc (.cells vs.toArray t)).heap[w.heap.size]? = some (.cells vs.toArray t (0, 0)) := heap_new w _
  simp only [World.cell?, h1]
  simp
set_option maxRecDepth 100000 in
set_option maxHeartbeats 1000000 in
theorem keysR_in (F : Fence) (n : Nat) (h10 : F.fn 81) (hro : F.round = none) (hn : 1 ≤ n) (l Bm b : Nat) (ents : Array MapEntry) (clk : Nat) (hst : DS.Stamped ents.toList clk) (hkv : ∀ e ∈ ents.toList, e.key = idVal (idOf e.key)) (J : List Id → World → Prop)
    (hY : ∀ pre x W, J pre W → pre.length < ents.size → YieldAt F (n - 1) Try.prog l #[idVal x] W fun e W' => e = .returned (.bool true) ∧ J (pre ++ [x]) W' ∧ KeepsWalks W W')
    (W : World) (hJ : AbidesFrom W.heap.size J) (hm : W.cell? ⟨Bm, 0, none⟩ = some (.map (some b))) (hb : W.heap[b]? = some (.map ents clk)) (h0 : J [] W) :
    CallsIn F n Try.prog 81 #[.func (.yield l) #[] #[], .pointer (some ⟨Bm, 0, none⟩)] W fun e W' => (∃ v, e = .returned v) ∧ ∃ ss : List Id, ss.Perm (ents.toList.map fun e => idOf e.key) ∧ J ss W' := by
  have HK : Hid (∀ e ∈ ents.toList, e.key = idVal (idOf e.key)) := hkv
  clear hkv
  refine callsIn_of_wp Try.func81 rfl h10 ?_ hro
  simp only [Try.ntmps81, List.size_toArray, List.length_cons, List.length_nil, Nat.reduceAdd, Nat.reduceSub, Array.replicate_succ, Array.replicate_zero, List.push_toArray, List.append_toArray, List.nil_append, List.cons_append]
  gi_wp2_with (first
    | (gi_at_range; refine wpListIn_range_raw rfl _ 122 27 4 rfl Try.underlying122 rfl hb ?_; intro hit0)
    | gi_in)
  go_frame
  gi_loopw [3] (fun _ wr => ∃ (done : List MapEntry), Iter wr b W.heap.size ents clk done ∧ J (done.map fun e => idOf e.key) wr)
    (fun _ wr => wr.rangeLeft b W.heap.size)
  case atStart =>
    exact ⟨[], hit0, hJ [] W _ none h0 (World.grownBy_alloc W _ none) (fun r e => by cases e)⟩
  case round =>
    obtain ⟨done, hit, hJs⟩ := hrel
    have hl0 := hit.left_eq hst
    gi_wp2_with (first
      | (gi_at_next; refine wpListIn_next_raw rfl _ rfl rfl hit hst ?_ ?_)
      | gi_in)
    · -- nothing is left
      intro hall
      gi_wp2
      go_end0
      have n1 : ents.toList.Nodup := nodup_map _ hst.2
      have n2 : done.Nodup := nodup_map _ hit.nodup
      have hp : done.Perm ents.toList := by
        rw [List.perm_ext_iff_of_nodup n2 n1]
        exact fun e => ⟨hit.sub e, fun h => hall e (by simpa using h)⟩
      exact ⟨⟨_, rfl⟩, _, hp.map _, hJs⟩
    · -- an entry has come
      intro e he hnd w2 hit2 hg2 hs2 hen
      have hl2 := hit2.left_eq hst
      rw [List.length_append, List.length_singleton] at hl2
      have hkey := HK.out e (by simpa using he)
      obtain ⟨seen, c0, hr, _⟩ := hit.it
      have hJ2 : J (done.map fun e => idOf e.key) w2 := hJ _ wr w2 (some W.heap.size) hJs hg2 (fun r e => by cases e; exact ⟨Nat.le_refl _, _, hr, rfl⟩)
      obtain ⟨w3, hw3⟩ : ∃ w3, w2.alloc (.cells (encI (idOf e.key)).toArray 27) = w3 := ⟨_, rfl⟩
      have hJ3 : J (done.map fun e => idOf e.key) w3 := by rw [← hw3]; exact hJ _ w2 _ none hJ2 (World.grownBy_alloc w2 _ none) (fun r e => by cases e)
      have hit3 : Iter w3 b W.heap.size ents clk (done ++ [e]) := by rw [← hw3]; exact hit2.walks (KeepsWalks.alloc _ _)
      obtain ⟨fn, tmps, assign, body, hy, hR⟩ := hY _ (idOf e.key) w3 hJ3 (by rw [List.length_map]; omega)
      obtain ⟨x, hx⟩ : ∃ x, idOf e.key = x := ⟨_, rfl⟩
      rw [hx] at hkey hy hw3
      rw [hkey] at hen ⊢
      have hR' := hR
      rw [hx] at hR'
      have hc0 : w3.cell? ⟨w2.heap.size, 0, none⟩ = some (.int .i64 x.e) := by rw [← hw3, cell_new]; rfl
      have hc1 : w3.cell? ⟨w2.heap.size, 1, none⟩ = some (.int .i64 x.n) := by rw [← hw3, cell_new]; rfl
      have hc2 : w3.cell? ⟨w2.heap.size, 2, none⟩ = some (.int .i64 x.k) := by rw [← hw3, cell_new]; rfl
      clear hs2 hkey hR
      simp only [idVal, encI] at hen hy hw3 ⊢
      gi_wp2
      refine hR'.mono ?_
      rintro e' W3 ⟨rfl, hJ4, hk4⟩
      gi_wp2
      have hit4 := hit3.walks hk4
      have hl4 := hit4.left_eq hst
      rw [List.length_append, List.length_singleton] at hl4
      go_roundw
      case rel => exact ⟨done ++ [e], hit4, by simpa [hx] using hJ4⟩
      case measure => omega
theorem keysR_gives (F : Fence) (n : Nat) (h10 : F.fn 81) (hro : F.round = none) (hn : 1 ≤ n) (Bm b : Nat) (ents : Array MapEntry) (clk : Nat) (hst : DS.Stamped ents.toList clk) (hkv : ∀ e ∈ ents.toList, e.key = idVal (idOf e.key)) (w : World) (hBm : Bm < w.heap.size)
    (hm : w.cell? ⟨Bm, 0, none⟩ = some (.map (some b))) (hb : w.heap[b]? = some (.map ents clk)) :
    SeqGives F n Try.prog 81 #[.pointer (some ⟨Bm, 0, none⟩)] idVal (fun ss => ss.Perm (ents.toList.map fun e => idOf e.key)) ents.size w := fun l J W hW hJ hY h0 =>
  keysR_in F n h10 hro hn l Bm b ents clk hst hkv J hY W hJ ((hW.cell (p := ⟨Bm, 0, none⟩) hBm).trans hm) ((hW.block b (Array.getElem?_eq_some_iff.1 hb).1).trans hb) h0
end Go.DS

/-
  slices.AppendSeq, slices.Collect of an iterator over instances.
-/
namespace Go.DS
open Go Go.Proofs Go.Shelf Go.RowKit Go.Sort Go.Maps Go.ChangeMaps Go.MapKept
set_option linter.unusedVariables false
set_option linter.unusedSimpArgs false
theorem cells_new (w : World) (vs : List Value) (t : TypeId) : ∀ j u, vs[j]? = some u → (w.alloc (.cells vs.toArray t)).cell? ((⟨w.heap.size, 0, none⟩ : Addr).add j) = some u := by
  intro j u hj
  have h1 : (w.alloc (.cells vs.toArray t)).heap[w.heap.size]? = some (.cells vs.toArray t (0, 0)) := heap_new w _
  by_cases h0 : j = 0
  · subst h0
    have : (⟨w.heap.size, 0, none⟩ : Addr).add 0 = ⟨w.heap.size, 0, none⟩ := rfl
    rw [this]
    simp only [World.cell?, h1]
    rw [List.getElem?_toArray]; exact hj
  · have e : (⟨w.heap.size, 0, none⟩ : Addr).add j = ⟨w.heap.size, j, none⟩ := by simp [Addr.add, h0]
    rw [e]
    simp only [World.cell?, h1]
    simp [hj]
theorem one_encI (x : Id) : ∀ u ∈ encI x, u.oneCell' = true := by
  intro v hv
  simp only [encI, List.mem_cons, List.not_mem_nil, or_false] at hv
  rcases hv with rfl | rfl | rfl <;> rfl
/-- The code of a loop over an iterator. -/
def rfOf : Code → Option (Code × Code)
  | .rangeFunc _ _ a b => some (a, b)
  | .seq a b => match rfOf a with
    | some r => some r
    | none => rfOf b
  | .block _ c => rfOf c
  | _ => none
noncomputable def apAs : Code := match Try.f84.body with
  | some c => match rfOf c with
    | some r => r.1
    | none => .skip
  | none => .skip
noncomputable def apBo : Code := match Try.f84.body with
  | some c => match rfOf c with
    | some r => r.2
    | none => .skip
  | none => .skip
noncomputable def apR (fn : FuncId) (sv : Value) (Bs D : Nat) (st : LoopState) (pend : Option Code) : Loop :=
  { state := st, pending := pend, fn, tmps := #[.slice none 0 0, sv, .pointer (some ⟨Bs, 0, none⟩), undef, .slice none 0 0, undef, sv, undef, undef, undef, undef, undef, undef], params := #[7], assign := apAs, body := apBo, defers := D }
theorem i26 : (Try.prog.info? 27).map (fun i => (i.zero, i.size, i.bytes)) = some (some (idVal ⟨0, 0, 0⟩), 3, 24) := by kernel_rfl
/-- Between two rounds. -/
structure ApI (w0 : World) (fn : FuncId) (sv : Value) (Bs l D : Nat) (ss : List Id) (W : World) : Prop where
  box : ∃ v, W.heap[Bs]? = some (.cells #[v] (34) (0, 0)) ∧ W.ownsRow w0.heap.size (27) 3 v ss.length (ss.flatMap encI)
  L : W.heap[l]? = some (.loop (apR fn sv Bs D .ready none))
  K : W.heap[D]? = some (.deferred (some []))
  below : Below w0.heap.size w0 W
theorem apI_abides (w0 : World) (fn : FuncId) (sv : Value) (Bs l D B : Nat) (hB : w0.heap.size ≤ B) : AbidesFrom B (ApI w0 fn sv Bs l D) := fun s W W' row h hg hrow => by
  have hrow' : ∀ r, row = some r → ∃ o : Obj, W.heap[r]? = some o ∧ o.isWalk = true := fun r e => (hrow r e).2
  obtain ⟨v, hv, hr⟩ := h.box
  exact ⟨⟨v, (grownBy_keeps hg hrow' hv rfl).trans hv, ownsRow_abides_a hr hg hrow'⟩, (grownBy_keeps hg hrow' h.L rfl).trans h.L, (grownBy_keeps hg hrow' h.K rfl).trans h.K,
    h.below.grown hg h.below.size (fun k e => Nat.le_trans hB (hrow k e).1)⟩
theorem info3 {P : Program} {t : TypeId} {z : Value} {s b : Nat} (h : (P.info? t).map (fun i => (i.zero, i.size, i.bytes)) = some (some z, s, b)) : ∃ i, P.info? t = some i ∧ i.zero = some z ∧ i.size = s ∧ i.bytes = b := by
  cases hi : P.info? t with
  | none => rw [hi] at h; cases h
  | some i => rw [hi] at h; simp only [Option.map_some, Option.some.injEq, Prod.mk.injEq] at h; exact ⟨i, rfl, h.1, h.2.1, h.2.2⟩
set_option maxRecDepth 100000 in
set_option maxHeartbeats 2000000 in
theorem apI_yield (F : Fence) (m : Nat) (w0 : World) (fn : FuncId) (hfn : F.fn fn) (sv : Value) (Bs l D : Nat) (hBl : Bs ≠ l) (hDl : D ≠ l) (hDB : D ≠ Bs) (h0B : w0.heap.size ≤ Bs) (h0l : w0.heap.size ≤ l)
    (N : Nat) (hN : N ≤ maxLen) (hNb : N * 24 ≤ 140737488355328) (ss : List Id) (x : Id) (W : World) (h : ApI w0 fn sv Bs l D ss W) (hlen : ss.length < N) :
    YieldAt F m Try.prog l #[idVal x] W fun e W' => e = .returned (.bool true) ∧ ApI w0 fn sv Bs l D (ss ++ [x]) W' ∧ KeepsWalks W W' := by
  have hne : 34 ≠ 27 := by decide
  obtain ⟨i0, hi, hz0, hz1, hz2⟩ := info3 i26
  refine ⟨fn, #[.slice none 0 0, sv, .pointer (some ⟨Bs, 0, none⟩), undef, .slice none 0 0, undef, sv, idVal x, undef, undef, undef, undef, undef], apAs, apBo, by simpa [apR] using run_yield (P := Try.prog) (args := #[idVal x]) h.L rfl, roundIn_of_wpIn hfn ?_⟩
  have hs0 := h.below.size
  have hl0 : l < W.heap.size := (Array.getElem?_eq_some_iff.1 h.L).1
  obtain ⟨Wa, hWa⟩ : ∃ Wa, W.alloc (.cells (encI x).toArray 27) = Wa := ⟨_, rfl⟩
  have ha : ApI w0 fn sv Bs l D ss Wa := by rw [← hWa]; exact apI_abides w0 fn sv Bs l D W.heap.size hs0 ss W _ none h (World.grownBy_alloc W _ none) (fun r e => by cases e)
  have hka : KeepsWalks W Wa := by rw [← hWa]; exact KeepsWalks.alloc _ _
  have ca0 : Wa.cell? ⟨W.heap.size, 0, none⟩ = some (.int .i64 x.e) := by rw [← hWa, cell_new]; rfl
  have ca1 : Wa.cell? ⟨W.heap.size, 1, none⟩ = some (.int .i64 x.n) := by rw [← hWa, cell_new]; rfl
  have ca2 : Wa.cell? ⟨W.heap.size, 2, none⟩ = some (.int .i64 x.k) := by rw [← hWa, cell_new]; rfl
  have hxv : idVal x = .agg #[.int .i64 x.e, .int .i64 x.n, .int .i64 x.k] := rfl
  simp only [encI] at hWa
  rw [hxv]
  simp only [apAs, Try.f84, rfOf]
  gi_wp2_with gi_round_op_a

  have hnl : W.heap.size ≠ l := by omega
  generalize hV : W.heap.size = V at hnl ca0 ca1 ca2 ⊢
  clear hV hWa h hl0 hs0
  obtain ⟨v, hv, hrow⟩ := ha.box
  have hl : l < Wa.heap.size := (Array.getElem?_eq_some_iff.1 ha.L).1
  have hbr := run_beginRound (P := Try.prog) ha.L rfl
  obtain ⟨W2, hW2⟩ : ∃ W2, Wa.putObj l (.loop { apR fn sv Bs D .ready none with state := .busy }) = W2 := ⟨_, rfl⟩
  rw [hW2] at hbr
  have hg2 : Wa.grownBy W2 (some l) := by rw [← hW2]; exact grownBy_putObj_a _ _ _
  have hk2 : KeepsWalks Wa W2 := by rw [← hW2]; exact KeepsWalks.putObj _ ha.L rfl
  have hv2 : W2.heap[Bs]? = some (.cells #[v] (34) (0, 0)) := by rw [← hW2]; exact (World.putObj_heap_other hBl).trans hv
  have hK2 : W2.heap[D]? = some (.deferred (some [])) := by rw [← hW2]; exact (World.putObj_heap_other hDl).trans ha.K
  have hL2 : W2.heap[l]? = some (.loop { apR fn sv Bs D .ready none with state := .busy }) := by rw [← hW2]; exact World.putObj_heap_same hl
  have hrow2 : W2.ownsRow w0.heap.size (27) 3 v ss.length (ss.flatMap encI) := hrow.kept hg2 (ownsRow_ne_a hrow ha.L (fun cur e => by first | cases e | exact hne (Obj.cells.inj e).2.1))
  have hb2 : Below w0.heap.size w0 W2 := ha.below.grown hg2 ha.below.size (fun k e => by cases e; exact h0l)
  have hc0 : W2.cell? ⟨V, 0, none⟩ = some (.int .i64 x.e) := by rw [← hW2]; exact (cell_of_heap (World.putObj_heap_other hnl)).trans ca0
  have hc1 : W2.cell? ⟨V, 1, none⟩ = some (.int .i64 x.n) := by rw [← hW2]; exact (cell_of_heap (World.putObj_heap_other hnl)).trans ca1
  have hcx : W2.cell? ⟨V, 2, none⟩ = some (.int .i64 x.k) := by rw [← hW2]; exact (cell_of_heap (World.putObj_heap_other hnl)).trans ca2
  obtain ⟨hc2, hf2⟩ := cell_of_box_a hv2
  have hBlt : Bs < W2.heap.size := (Array.getElem?_eq_some_iff.1 hv2).1
  have hl2 : l < W2.heap.size := (Array.getElem?_eq_some_iff.1 hL2).1
  have hDlt : D < W2.heap.size := (Array.getElem?_eq_some_iff.1 hK2).1
  have ne_of : ∀ {j : Nat} {o : Obj}, W2.heap[j]? = some o → (∀ cur, o ≠ .cells cur (27) (0, 0)) → some j ≠ v.ownBlock := fun hj hno => by
    rcases ownsRow_ne_a hrow2 hj hno with e | e
    · rw [e]; simp
    · exact fun e' => e e'.symm
  clear hW2
  refine ⟨_, hbr, ?_⟩
  simp only [apBo, Try.f84, rfOf]
  gi_wp2_with (first
    | (gi_at_builtin; refine wpListIn_append_own _ rfl _ _ (34) rfl w0.heap.size (27) i0 (idVal ⟨0, 0, 0⟩) 3 24 Try.underlying34 hi hz0 hz1 hz2 rfl (by decide) _ _ _ rfl (hrow2.alloc _) ⟨W2.heap.size, 0, none⟩ 1 1 (encI x) rfl rfl (cells_new W2 (encI x) (27)) (one_encI x) (by omega) (by omega) (by have := hb2.size; simp; omega) ?_; intro v' w3 hown' hg3 hnil3
       have hv3 : w3.heap[Bs]? = some (.cells #[v] (34) (0, 0)) := (hg3.block Bs (by simp; omega) (ne_of hv2 (fun cur e => by first | cases e | exact hne (Obj.cells.inj e).2.1))).trans ((Below.heap_alloc _ _ Bs hBlt).trans hv2)
       obtain ⟨hc3, hf3⟩ := cell_of_box_a hv3
       obtain ⟨g', cap', cur', rfl, hbase', hgb', hr1, hr2, hr3, hr4⟩ : ∃ g' cap' cur', v' = .slice (some ⟨g', 0, none⟩) (ss.length + 1) cap' ∧ w0.heap.size ≤ g' ∧ w3.heap[g']? = some (.cells cur' (27) (0, 0)) ∧ ss.length + 1 ≤ cap' ∧ cap' ≤ maxLen ∧ cur'.size = cap' * 3 ∧ cur'.toList.take ((ss.length + 1) * 3) = ss.flatMap encI ++ encI x := by
         rcases hown'.2 with ⟨_, h0⟩ | h'
         · exact absurd h0 (by omega)
         · exact h'
       go_frame)
    | gi_round_op_a)
  have hg3' : (W2.alloc (.cells (encI x).toArray (27))).grownBy w3 v.ownBlock := hg3
  have hL3 : w3.heap[l]? = some (.loop { apR fn sv Bs D .ready none with state := .busy }) := (hg3'.block l (by simp; omega) (ne_of hL2 (fun cur e => by first | cases e | exact hne (Obj.cells.inj e).2.1))).trans ((Below.heap_alloc _ _ l hl2).trans hL2)
  have hK3 : w3.heap[D]? = some (.deferred (some [])) := (hg3'.block D (by simp; omega) (ne_of hK2 (fun cur e => by first | cases e | exact hne (Obj.cells.inj e).2.1))).trans ((Below.heap_alloc _ _ D hDlt).trans hK2)
  obtain ⟨w4, hw4⟩ : ∃ w4, w3.setCell ⟨Bs, 0, none⟩ (.slice (some ⟨g', 0, none⟩) (ss.length + 1) cap') = w4 := ⟨_, rfl⟩
  rw [hw4]
  have hg4 : w3.grownBy w4 (some Bs) := by rw [← hw4]; exact grownBy_setCell0_a _ _ _
  have hv4 : w4.heap[Bs]? = some (.cells #[.slice (some ⟨g', 0, none⟩) (ss.length + 1) cap'] (34) (0, 0)) := by rw [← hw4]; exact heap_setCell_box_a _ hv3
  have hL4 : w4.heap[l]? = some (.loop { apR fn sv Bs D .ready none with state := .busy }) := (hg4.block l (Array.getElem?_eq_some_iff.1 hL3).1 (fun e => hBl (by cases e; rfl))).trans hL3
  have hK4 : w4.heap[D]? = some (.deferred (some [])) := (hg4.block D (Array.getElem?_eq_some_iff.1 hK3).1 (fun e => hDB (by cases e; rfl))).trans hK3
  have hrow4 := hown'.kept hg4 (ownsRow_ne_a hown' hv3 (fun cur e => by first | cases e | exact hne (Obj.cells.inj e).2.1))
  have hl4 : l < w4.heap.size := (Array.getElem?_eq_some_iff.1 hL4).1
  have hb3 : Below w0.heap.size w0 w3 := (hb2.alloc hb2.size _).grown hg3' (by have := hb2.size; simp; omega) (fun k e => (hrow2.lt k e).1)
  have hb4 : Below w0.heap.size w0 w4 := hb3.grown hg4 hb3.size (fun k e => by cases e; exact h0B)
  have hk4 : KeepsWalks W w4 := (((hka.trans hk2).trans (KeepsWalks.alloc _ _)).trans (KeepsWalks.of_grownBy hg3' (ownsRow_not_walk_a (hrow2.alloc _)))).trans (by rw [← hw4]; exact KeepsWalks.setCell _ _ _)
  clear hw4
  refine ⟨_, _, run_endRound none hL4, rfl, ⟨⟨_, (World.putObj_heap_other hBl).trans hv4, ?_⟩, World.putObj_heap_same hl4, (World.putObj_heap_other hDl).trans hK4, hb4.grown (grownBy_putObj_a _ _ _) hb4.size (fun k e => by cases e; exact h0l)⟩, hk4.trans (KeepsWalks.putObj _ hL4 rfl)⟩
  have := hrow4.kept (grownBy_putObj_a w4 l (.loop { { apR fn sv Bs D .ready none with state := .busy } with state := if (none : Option Code).isNone then .ready else .done, pending := none })) (ownsRow_ne_a hrow4 hL4 (fun cur e => by first | cases e | exact hne (Obj.cells.inj e).2.1))
  simpa using this
set_option maxRecDepth 100000 in
set_option maxHeartbeats 2000000 in
theorem apI_in (F : Fence) (n : Nat) (h11 : F.fn 84) (hro : F.round = none) (hn : 2 ≤ n) (g : Nat) (lb : Array Value) (hFg : F.fn g) (eg : ∀ args w, (callFunc g args).run Try.prog w = .ok (.enter g args) w)
    (S : List Id → Prop) (N : Nat) (hN : N ≤ maxLen) (hNb : N * 24 ≤ 140737488355328) (w : World) (hseq : SeqGives F (n - 1) Try.prog g lb idVal S N w) :
    CallsIn F n Try.prog 84 #[.slice none 0 0, .func (.func g) #[] lb] w fun e w' => ∃ (v : Value) (ss : List Id), e = .returned v ∧ S ss ∧ w'.ownsRow w.heap.size (27) 3 v ss.length (ss.flatMap encI) ∧ Below w.heap.size w w' := by
  have h1 : 1 ≤ n := by omega
  have hne : 34 ≠ 27 := by decide
  refine callsIn_of_wp_marks Try.func84 rfl h11 ?_ hro
  simp only [Try.ntmps84, List.size_toArray, List.length_cons, List.length_nil, Nat.reduceAdd, Nat.reduceSub, Array.replicate_succ, Array.replicate_zero, List.push_toArray, List.append_toArray, List.nil_append, List.cons_append]
  gi_wp2
  refine wpIn_rangeFunc ?_
  intro fn hfn
  rw [hro]
  obtain ⟨W0, hW0⟩ : ∃ W0, w.alloc (.cells #[.slice none 0 0] (34)) = W0 := ⟨_, rfl⟩
  have hs0 : W0.heap.size = w.heap.size + 1 := by rw [← hW0]; simp
  have hv0 : W0.heap[w.heap.size]? = some (.cells #[.slice none 0 0] (34) (0, 0)) := by rw [← hW0]; exact World.alloc_heap_new w _
  have hb0 : Below w.heap.size w W0 := by rw [← hW0]; exact (Below.refl _ w).alloc (Nat.le_refl _) _
  rw [hW0]
  obtain ⟨W1, hW1⟩ : ∃ W1, (W0.alloc (.deferred (some []))).alloc (.loop (apR fn (.func (.func g) #[] lb) w.heap.size W0.heap.size .ready none)) = W1 := ⟨_, rfl⟩
  have hold : ∀ k, k < W0.heap.size → W1.heap[k]? = W0.heap[k]? := fun k hk => by
    rw [← hW1]; exact (Below.heap_alloc _ _ k (by simp; omega)).trans (Below.heap_alloc _ _ k hk)
  have hb1 : Below w.heap.size w W1 := by rw [← hW1]; exact (hb0.alloc hb0.size _).alloc (by have := hb0.size; simp; omega) _
  have hs1 : W1.heap.size = W0.heap.size + 2 := by rw [← hW1]; simp
  have hM : ApI w fn (.func (.func g) #[] lb) w.heap.size (W0.heap.size + 1) W0.heap.size [] W1 :=
    ⟨⟨_, (hold w.heap.size (by omega)).trans hv0, ⟨rfl, .inl ⟨rfl, rfl⟩⟩⟩,
     by rw [← hW1]; have := World.alloc_heap_new (W0.alloc (.deferred (some []))) (.loop (apR fn (.func (.func g) #[] lb) w.heap.size W0.heap.size .ready none)); rwa [World.size_alloc] at this,
     by rw [← hW1]; exact (Below.heap_alloc _ _ _ (by simp)).trans (World.alloc_heap_new W0 _), hb1⟩
  refine ⟨W0.heap.size + 1, [{ target := .collected W0.heap.size, args := #[] }], W1, { target := .fn (.func g) lb, args := #[.func (.yield (W0.heap.size + 1)) #[] #[]] }, W1, g,
    #[.func (.yield (W0.heap.size + 1)) #[] #[]] ++ lb, W1, ?_, ?_, ?_, ?_, fun _ => h1, ?_⟩
  · rw [← hW1]; exact run_enterLoop_outer _ _ _ _ _
  · simp [resolve, go_sem]
  · intro f' hf'; simp [Target.leads] at hf'; subst hf'; exact hFg
  · simp [invoke, go_sem, eg]
  · refine (hseq (W0.heap.size + 1) (ApI w fn (.func (.func g) #[] lb) w.heap.size (W0.heap.size + 1) W0.heap.size) W1 hb1 (apI_abides _ _ _ _ _ _ _ hb1.size)
      (fun pre x W hJ hl => apI_yield F (n - 1 - 1) w fn hfn _ w.heap.size (W0.heap.size + 1) W0.heap.size (by omega) (by omega) (by omega) (Nat.le_refl _) (by omega) N hN hNb pre x W hJ hl) hM).mono ?_
    rintro e W2 ⟨⟨v0, rfl⟩, ss, hS, h2⟩
    obtain ⟨v, hv, hrow⟩ := h2.box
    have hend := run_endLoop (P := Try.prog) h2.L (by simp [apR])
    obtain ⟨W3, hW3⟩ : ∃ W3, W2.putObj (W0.heap.size + 1) (.loop { apR fn (.func (.func g) #[] lb) w.heap.size W0.heap.size .ready none with state := .exhausted }) = W3 := ⟨_, rfl⟩
    rw [hW3] at hend
    have hg3 : W2.grownBy W3 (some (W0.heap.size + 1)) := by rw [← hW3]; exact grownBy_putObj_a _ _ _
    have hv3 : W3.heap[w.heap.size]? = some (.cells #[v] (34) (0, 0)) := by rw [← hW3]; exact (World.putObj_heap_other (by omega)).trans hv
    have hK3 : W3.heap[W0.heap.size]? = some (.deferred (some [])) := by rw [← hW3]; exact (World.putObj_heap_other (by omega)).trans h2.K
    have hrow3 := hrow.kept hg3 (ownsRow_ne_a hrow h2.L (fun cur e => by first | cases e | exact hne (Obj.cells.inj e).2.1))
    have hb3 : Below w.heap.size w W3 := h2.below.grown hg3 h2.below.size (fun k e => by cases e; omega)
    obtain ⟨hc3, hf3⟩ := cell_of_box_a hv3
    clear hW3
    refine ⟨none, W3, hend, ?_⟩
    gi_wp2
    rw [← hs0]
    refine ⟨by simp, .inl ⟨_, _, rfl, run_takeDeferred hK3, ?_⟩⟩
    exact ⟨_, results_tmp rfl _ _ _, v, ss, rfl, hS, hrow3.kept (grownBy_putObj_a _ _ _) (ownsRow_ne_a hrow3 hK3 (fun cur e => by first | cases e | exact hne (Obj.cells.inj e).2.1)), hb3.grown (grownBy_putObj_a _ _ _) hb3.size (fun k e => by cases e; omega)⟩
end Go.DS

/-
  slices.SortedFunc of maps.Keys, over instances.
-/
namespace Go.DS
open Go Go.Proofs Go.Shelf Go.RowKit Go.Sort Go.Maps Go.ChangeMaps Go.MapKept
set_option linter.unusedVariables false
set_option linter.unusedSimpArgs false
def islays_ren : Ren := ⟨fun | 6 => 80 | 15 => 86 | 14 => 85 | 28 => 96 | 29 => 97 | 20 => 88 | 21 => 89 | 22 => 90 | 23 => 91 | 24 => 92 | 25 => 93 | 26 => 94 | 27 => 95 | 46 => 98 | 47 => 99 | 48 => 100 | 49 => 101 | 50 => 102 | 57 => 103 | n => n,
  fun | 22 => 34 | 24 => 27 | 25 => 133 | 3 => 3 | 39 => 124 | 0 => 0 | 53 => 151 | 55 => 153 | 4 => 4 | 46 => 144 | 45 => 143 | 50 => 148 | 5 => 5 | 9 => 9 | 66 => 154 | 70 => 158 | 76 => 160 | 77 => 161 | n => n,
  fun n => n⟩
theorem islays : SlLaysF0.n6 Try.prog islays_ren where
  mixed := by kernel_rfl
  f6 := ⟨"slices.SortFunc[[]syndic/api.ID,syndic/api.ID]", of_decide_eq_true (by kernel_rfl), Try.func80.trans (congrArg some (by kernel_rfl))⟩
  f14 := ⟨"slices.pdqsortCmpFunc[syndic/api.ID]", of_decide_eq_true (by kernel_rfl), Try.func85.trans (congrArg some (by kernel_rfl))⟩
  f15 := by kernel_rfl
  f20 := ⟨"slices.insertionSortCmpFunc[syndic/api.ID]", of_decide_eq_true (by kernel_rfl), Try.func88.trans (congrArg some (by kernel_rfl))⟩
  f21 := ⟨"slices.heapSortCmpFunc[syndic/api.ID]", of_decide_eq_true (by kernel_rfl), Try.func89.trans (congrArg some (by kernel_rfl))⟩
  f22 := ⟨"slices.breakPatternsCmpFunc[syndic/api.ID]", of_decide_eq_true (by kernel_rfl), Try.func90.trans (congrArg some (by kernel_rfl))⟩
  f23 := ⟨"slices.choosePivotCmpFunc[syndic/api.ID]", of_decide_eq_true (by kernel_rfl), Try.func91.trans (congrArg some (by kernel_rfl))⟩
  f24 := ⟨"slices.reverseRangeCmpFunc[syndic/api.ID]", of_decide_eq_true (by kernel_rfl), Try.func92.trans (congrArg some (by kernel_rfl))⟩
  f25 := ⟨"slices.partialInsertionSortCmpFunc[syndic/api.ID]", of_decide_eq_true (by kernel_rfl), Try.func93.trans (congrArg some (by kernel_rfl))⟩
  f26 := ⟨"slices.partitionEqualCmpFunc[syndic/api.ID]", of_decide_eq_true (by kernel_rfl), Try.func94.trans (congrArg some (by kernel_rfl))⟩
  f27 := ⟨"slices.partitionCmpFunc[syndic/api.ID]", of_decide_eq_true (by kernel_rfl), Try.func95.trans (congrArg some (by kernel_rfl))⟩
  f28 := by kernel_rfl
  f29 := by kernel_rfl
  f46 := ⟨"slices.siftDownCmpFunc[syndic/api.ID]", of_decide_eq_true (by kernel_rfl), Try.func98.trans (congrArg some (by kernel_rfl))⟩
  f47 := by kernel_rfl
  f48 := by kernel_rfl
  f49 := ⟨"slices.medianAdjacentCmpFunc[syndic/api.ID]", of_decide_eq_true (by kernel_rfl), Try.func101.trans (congrArg some (by kernel_rfl))⟩
  f50 := ⟨"slices.medianCmpFunc[syndic/api.ID]", of_decide_eq_true (by kernel_rfl), Try.func102.trans (congrArg some (by kernel_rfl))⟩
  f57 := ⟨"slices.order2CmpFunc[syndic/api.ID]", of_decide_eq_true (by kernel_rfl), Try.func103.trans (congrArg some (by kernel_rfl))⟩
  t0 := Try.underlying0
  a0 := Try.isAgg0
  z0 := Try.sizeOf0
  v0 := Try.zeroValue0
  t3 := Try.underlying3
  a3 := Try.isAgg3
  z3 := Try.sizeOf3
  v3 := Try.zeroValue3
  t4 := Try.underlying4
  a4 := Try.isAgg4
  z4 := Try.sizeOf4
  v4 := Try.zeroValue4
  t5 := Try.underlying5
  a5 := Try.isAgg5
  z5 := Try.sizeOf5
  v5 := Try.zeroValue5
  t9 := Try.underlying9
  a9 := Try.isAgg9
  z9 := Try.sizeOf9
  v9 := Try.zeroValue9
  t22 := Try.underlying34
  a22 := Try.isAgg34
  z22 := Try.sizeOf34
  v22 := Try.zeroValue34
  t25 := Try.underlying133
  a25 := Try.isAgg133
  z25 := Try.sizeOf133
  v25 := Try.zeroValue133
  t39 := Try.underlying124
  a39 := Try.isAgg124
  z39 := Try.sizeOf124
  v39 := Try.zeroValue124
  t45 := Try.underlying143
  a45 := Try.isAgg143
  z45 := Try.sizeOf143
  v45 := Try.zeroValue143
  t46 := Try.underlying144
  a46 := Try.isAgg144
  z46 := Try.sizeOf144
  v46 := Try.zeroValue144
  t50 := Try.underlying148
  a50 := Try.isAgg148
  z50 := Try.sizeOf148
  v50 := Try.zeroValue148
  t53 := Try.underlying151
  a53 := Try.isAgg151
  z53 := Try.sizeOf151
  v53 := Try.zeroValue151
  t55 := Try.underlying153
  a55 := Try.isAgg153
  z55 := Try.sizeOf153
  v55 := Try.zeroValue153
  t66 := Try.underlying154
  a66 := Try.isAgg154
  z66 := Try.sizeOf154
  v66 := Try.zeroValue154
  t70 := Try.underlying158
  a70 := Try.isAgg158
  z70 := Try.sizeOf158
  v70 := Try.zeroValue158
  t76 := Try.underlying160
  a76 := Try.isAgg160
  z76 := Try.sizeOf160
  v76 := Try.zeroValue160
  t77 := Try.underlying161
  a77 := Try.isAgg161
  z77 := Try.sizeOf161
  v77 := Try.zeroValue161
theorem key_id {g : Gh} {x : Id} {v : Value} (h : RelV g (idDV x) v) : v = idVal x := h.toVal rfl
theorem keysD_vals {g : Gh} {es : List (DV × DV)} {ents : List MapEntry} {ks : List Id} (hE : RelE g es ents) (hK : es.map (·.1) = ks.map idDV) : ents.map (·.key) = ks.map idVal := by
  have hl : es.length = ks.length := by have := congrArg List.length hK; simpa using this
  apply List.ext_getElem?
  intro i
  rw [List.getElem?_map, List.getElem?_map]
  by_cases hi : i < ks.length
  · have hi1 : i < es.length := by omega
    have hi2 : i < ents.length := by have := hE.len; omega
    rw [List.getElem?_eq_getElem hi, List.getElem?_eq_getElem hi2]
    have := (hE.at_ i _ _ (List.getElem?_eq_getElem hi1) (List.getElem?_eq_getElem hi2)).1
    have hk := congrArg (·[i]?) hK
    simp only [List.getElem?_map, List.getElem?_eq_getElem hi, List.getElem?_eq_getElem hi1, Option.map_some, Option.some.injEq] at hk
    rw [hk] at this
    rw [Option.map_some, Option.map_some, key_id this]
  · rw [List.getElem?_eq_none (by have := hE.len; omega), List.getElem?_eq_none (by omega)]; rfl
theorem keysD_ids {g : Gh} {es : List (DV × DV)} {ents : List MapEntry} {ks : List Id} (hE : RelE g es ents) (hK : es.map (·.1) = ks.map idDV) : (∀ e ∈ ents, e.key = idVal (idOf e.key)) ∧ ents.map (fun e => idOf e.key) = ks := by
  have hv := keysD_vals hE hK
  refine ⟨fun e he => ?_, ?_⟩
  · have : e.key ∈ ks.map idVal := by rw [← hv]; exact List.mem_map_of_mem (f := (·.key)) he
    obtain ⟨s, _, h⟩ := List.mem_map.1 this
    rw [← h, idOf_val]
  · have : ents.map (fun e => idOf e.key) = (ents.map (·.key)).map idOf := by rw [List.map_map]; rfl
    rw [this, hv, List.map_map]
    exact (List.map_congr_left fun s _ => rfl).trans (List.map_id ks)
theorem relL_ids {g : Gh} (l : List Id) : RelL g (idr l).flatten (l.flatMap encI) := by
  induction l with
  | nil => exact .nil g
  | cons x l ih =>
    have e1 : (idr (x :: l)).flatten = [num x.e, num x.n, num x.k] ++ (idr l).flatten := rfl
    rw [e1, List.flatMap_cons]
    exact RelL.append (.cons (.sc _) (.cons (.sc _) (.cons (.sc _) (.nil _)))) ih
theorem cell_ids (l : List Id) : (idr l).flatten.all DV.cell = true := by
  simp only [List.all_eq_true, List.mem_flatten]
  rintro d ⟨r, hr, hd⟩
  obtain ⟨s, _, rfl⟩ := List.mem_map.1 hr
  simp only [List.mem_cons, List.not_mem_nil, or_false] at hd
  rcases hd with rfl | rfl | rfl <;> rfl
theorem three_ids (l : List Id) : ∀ r ∈ idr l, r.length = 3 := by
  intro r hr
  obtain ⟨s, _, rfl⟩ := List.mem_map.1 hr
  rfl
theorem keys1_callee : calleeOK Try.prog 81 = true := by kernel_rfl
set_option maxRecDepth 100000 in
set_option maxHeartbeats 2000000 in
/-- slices.Collect of maps.Keys. -/
theorem collectD_calls (Bm b : Nat) (ents : Array MapEntry) (clk : Nat) (hst : DS.Stamped ents.toList clk) (hkv : ∀ e ∈ ents.toList, e.key = idVal (idOf e.key)) (hn : ents.size ≤ 1048576) (w : World)
    (hm : w.cell? ⟨Bm, 0, none⟩ = some (.map (some b))) (hb : w.heap[b]? = some (.map ents clk)) :
    Calls Try.prog 79 #[.func (.func 81) #[] #[.pointer (some ⟨Bm, 0, none⟩)]] w fun e w' => ∃ (v : Value) (ss : List Id), e = .returned v ∧ ss.Perm (ents.toList.map fun e => idOf e.key) ∧ w'.ownsRow w.heap.size 27 3 v ss.length (ss.flatMap encI) ∧ Below w.heap.size w w' := by
  have hseq := keysR_gives Fence.wide 7 trivial rfl (by omega) Bm b ents clk hst hkv w (lt_of_cell hm) hm hb
  have hcol := callsIn_wide.1 (apI_in Fence.wide 8 trivial rfl (by omega) 81 #[.pointer (some ⟨Bm, 0, none⟩)] trivial (enters_ok keys1_callee) _ ents.size (by simp only [maxLen]; omega) (by omega) w hseq)
  go_enter Try.func79, Try.ntmps79
  go_wp2_with (go_at_call 84; refine hcol.mono ?_; rintro e W ⟨v, ss, rfl, hperm, hrow, hb⟩)
  go_ret
  exact ⟨v, ss, rfl, hperm, hrow, hb⟩
set_option maxRecDepth 100000 in
set_option maxHeartbeats 2000000 in
theorem keysDF_ok {args : List DV} {h : DHeap} {r : DV} {h' : DHeap} (hx : keysDF Try.prog 81 78 args h = some (r, h')) : CallOK Try.prog 76 args h r h' := by
  unfold keysDF at hx
  split at hx
  · rename_i h0 a i b
    split at hx
    · rename_i j hi
      split at hx
      · rename_i es hj
        split at hx
        · rename_i hc
          obtain ⟨rfl, rfl, hK, hS⟩ := hc
          cases hx
          generalize es.map (fun e => keyD e.1) = ks at *
          refine callOK_row (three_ids _) (cell_ids _) fun g w vs hW hR => ?_
          obtain ⟨u, v, rfl, hu, hv⟩ := rel2 hR
          obtain ⟨p, rfl, hp⟩ := fn_inv0 hu
          obtain rfl := fn_inv00 hv
          obtain ⟨hi0, rfl⟩ := ptr_inv hp
          have hbox := map_box hW hi
          obtain ⟨ents, clk, a1, a2, a3, a4, a5⟩ := hW.obj j _ hj
          obtain ⟨k1, k2⟩ := keysD_ids a4 hK.keys
          have hsz : ents.size = ks.length := by rw [← k2, List.length_map]; rfl
          have hcol := collectD_calls (g.η i) (g.η j) ents clk a5 k1 (by have := hK.len; omega) w hbox a1
          rw [k2] at hcol
          have hlen : (idr (sortD ks)).length = ks.length := by simp [idr_len, sortD_len]
          rw [hlen]
          go_enter Try.func76, Try.ntmps76
          go_wp2_with (go_at_call 79; refine hcol.mono ?_; rintro e W ⟨v, ss, rfl, hperm, hrow, hb⟩)
          have hsort := sortD_row islays Try.isAgg27 Try.sizeOf27 (o := 78) (l := ss) hS hrow (by have := hK.len; have := hperm.length_eq; omega)
          go_wp2_with (go_at_call 80; refine hsort.mono ?_; rintro e W' ⟨rfl, hrow', hb'⟩)
          go_ret
          rw [sortD_perm hperm, hperm.length_eq] at hrow'
          exact ⟨v, _, _, rfl, hb.trans hb', hrow', relL_ids _⟩
        · cases hx
      · cases hx
    · cases hx
  · cases hx
end Go.DS

/-
  maps.Equal of two sets of instances.
-/
namespace Go.DS
open Go Go.Proofs Go.Shelf Go.RowKit Go.Sort Go.Maps Go.ChangeMaps Go.MapKept
set_option linter.unusedVariables false
set_option linter.unusedSimpArgs false
theorem eqK_id (c d : Id) : eqKey [0, 0, 0] (.agg [num c.e, num c.n, num c.k]) (.agg [num d.e, num d.n, num d.k]) = some (decide (c = d)) := by
  simp only [eqKey, eqs, scs, eqV, eq1, if_true]
  congr 1
  rw [Bool.eq_iff_iff]
  obtain ⟨c1, c2, c3⟩ := c
  obtain ⟨d1, d2, d3⟩ := d
  simp
theorem find_setD (c : Id) : ∀ l : List Id, findD [0, 0, 0] (.agg [num c.e, num c.n, num c.k]) (setD l) = some (if c ∈ l then some (.sc (.bool true)) else none)
  | [] => rfl
  | d :: l => by
    have ih := find_setD c l
    simp only [setD] at ih
    simp only [setD, List.map_cons, findD, eqK_id]
    by_cases h : c = d
    · simp [h]
    · simp only [h, decide_false, ih, List.mem_cons, false_or]
theorem flat_id : flatK Try.prog 8 27 = some [0, 0, 0] := by kernel_rfl
theorem keyOK_id (x : Id) : keyOK Try.prog 27 (idDV x) = true := by
  have : tinfo Try.prog 27 = some (true, 3) := by kernel_rfl
  simp [keyOK, this, scs]
theorem rel_id {g : Gh} (x : Id) : RelV g (idDV x) (idVal x) := .agg (vs := encI x) rfl (RelL.at_ (.cons (.sc _) (.cons (.sc _) (.cons (.sc _) (.nil g)))))
/-- Looking for an instance in a set. -/
theorem set_lookup {g : Gh} {w : World} {l : List Id} {ents : Array MapEntry} {clk b : Nat} (hb : w.heap[b]? = some (.map ents clk)) (hre : RelE g (setD l) ents.toList) (x : Id) :
    (Instr.lookup 122 (.map (some b)) (idVal x) true).run Try.prog w = .ok (.tuple #[.bool (decide (x ∈ l)), .bool (decide (x ∈ l))]) w := by
  have hu : Try.prog.underlying 122 = some (.map 27 4) := Try.underlying122
  have hzr : (zeroValue 4).run Try.prog w = .ok (.bool false) w := Try.zeroValue4 w
  have hck : (Instr.checkKey ents.isEmpty 10000 27 (idVal x)).run Try.prog w = .ok () w := by
    obtain ⟨q, xs, hq, hl, hka⟩ := keyAt (P := Try.prog) flat_id (keyOK_id x) (rel_id (g := g) x)
    rw [hka.val]
    exact checkKey_run _ 8 _ _ q xs 10000 flat_id hq hl (by omega)
  have hfk := findKey_run (P := Try.prog) (w := w) flat_id (keyOK_id x) (rel_id (g := g) x) hre
  have hf := find_setD x l
  by_cases hx : x ∈ l
  · rw [if_pos hx] at hf
    rcases findD_spec hf with ⟨i, e, hfi, he, h1⟩ | ⟨hn, h1⟩
    · obtain ⟨m', hm', hrun⟩ := hfk.1 i hfi
      have h2 := (hre.at_ i e m' he hm').2
      rw [← Option.some.inj h1] at h2
      rw [sc_inv h2] at hrun
      unfold Instr.lookup
      simp [run_underlying hu, run_getObj_map hb, hck, hrun, hx]
    · cases h1
  · rw [if_neg hx] at hf
    rcases findD_spec hf with ⟨i, e, hfi, he, h1⟩ | ⟨hn, h1⟩
    · cases h1
    · have hrun := hfk.2 hn
      unfold Instr.lookup
      simp [run_underlying hu, run_getObj_map hb, hck, hrun, hzr, hx]
theorem set_vals {g : Gh} {l : List Id} {ents : List MapEntry} (hre : RelE g (setD l) ents) : ∀ e ∈ ents, e.val = .bool true := by
  intro e he
  obtain ⟨i, hi, rfl⟩ := List.getElem_of_mem he
  have hi1 : i < (setD l).length := by have := hre.len; omega
  have := (hre.at_ i _ _ (List.getElem?_eq_getElem hi1) (List.getElem?_eq_getElem hi)).2
  have e1 : ((setD l)[i]).2 = .sc (.bool true) := by simp [setD]
  rw [e1] at this
  exact sc_inv this
theorem setD_keys' (l : List Id) : (setD l).map (·.1) = l.map idDV := by simp only [setD, List.map_map]; rfl
theorem same_len {l m : List Id} (hl : l.Nodup) (hm : m.Nodup) (h : ∀ x ∈ l, x ∈ m) (hs : l.length = m.length) : sameP l m = true := by
  refine sameP_iff.2 fun x => ⟨h x, fun hx => Decidable.byContradiction fun hn => ?_⟩
  have h1 : (x :: l).Nodup := List.nodup_cons.2 ⟨hn, hl⟩
  have := List.Nodup.length_le_of_subset h1 (l₂ := m) fun y hy => by
    rcases List.mem_cons.1 hy with rfl | hy
    · exact hx
    · exact h y hy
  simp only [List.length_cons] at this
  omega
theorem same_no {l m : List Id} (hl : l.Nodup) (hm : m.Nodup) (hs : l.length ≠ m.length) : sameP l m = false := by
  rw [Bool.eq_false_iff]
  intro e
  have hp : l.Perm m := by rw [List.perm_ext_iff_of_nodup hl hm]; exact sameP_iff.1 e
  exact hs hp.length_eq
section
variable {P : Program} {ops : Array Oper} {rest : List Oper} {o : Oper} {a : Act} {Q : Exit → Act → World → Prop} {w : World} {b : Nat} {ents : Array MapEntry} {clk : Nat}
theorem wpList_next_ent {r : Nat} {done : List MapEntry} (hg : o.guard = none) (it : Operand) (hop : o.op = .next it false) (hit : a.eval it = .pointer (some ⟨r, 0, none⟩)) (h : Iter w b r ents clk done) (hst : Stamped ents.toList clk)
    (hDone : (∀ e ∈ ents.toList, e ∈ done) → wpList P ops Q rest (a.put o.dst (.tuple #[.bool false])) w)
    (hMore : ∀ e ∈ ents.toList, e ∉ done → ∀ w', Iter w' b r ents clk (done ++ [e]) → w.grownBy w' (some r) → w'.heap.size = w.heap.size → (Instr.entry (.pointer (some ⟨r, 0, none⟩))).run P w' = .ok (.tuple #[e.key, e.val]) w' → wpList P ops Q rest (a.put o.dst (.tuple #[.bool true, e.key, e.val])) w') :
    wpList P ops Q (o :: rest) a w := by
  refine wpList_plain hg fun K' hK' => ?_
  obtain ⟨hb, ⟨seen, c0, hr, hc, hs⟩, hn, hsub⟩ := h
  have hne : r ≠ b := fun e => by rw [e, hb] at hr; cases hr
  unfold Oper.wp
  rcases run_next_at (P := P) w o.type r b clk c0 seen ents clk hr hb hst.1 hc with ⟨h0, hrun⟩ | ⟨e, he, w1, hal, hrun⟩
  · simp [execOp, hop, hit, hrun, Result.andThen]
    refine hK' _ _ (hDone fun e he => (hs e he).1 ?_)
    exact all_seen ents seen h0 e he
  · obtain ⟨hem, hes⟩ := mem_left he
    have hnd : e ∉ done := fun hd => by rw [(hs e hem).2 hd] at hes; cases hes
    have hr1 : w1.heap[r]? = some (.mapIter (some b) clk seen c0) := by rcases hal with rfl | rfl <;> exact hr
    have hb1 : w1.heap[b]? = some (.map ents clk) := by rcases hal with rfl | rfl <;> exact hb
    have hset := set_block (o' := .mapIter (some b) clk (seen.push e.born) clk) hr1
    simp [execOp, hop, hit, hrun, Result.andThen]
    refine hK' _ _ (hMore e hem hnd _ ⟨(hset.2 b (fun e1 => hne e1.symm)).trans hb1, ⟨_, clk, hset.1, Nat.le_refl _, fun x hx => ?_⟩, ?_, ?_⟩ ?_ ?_ (run_entry_at _ r b clk seen ents clk e hset.1 ((hset.2 b (fun e1 => hne e1.symm)).trans hb1) (by simpa using hem) hst.2))
    · rw [contains_push, Bool.or_eq_true, hs x hx, List.mem_append, List.mem_singleton, beq_iff_eq]
      exact or_congr Iff.rfl ⟨fun hb => stamp_inj hst hx hem hb, fun hb => by rw [hb]⟩
    · rw [List.map_append, List.nodup_append]
      refine ⟨hn, by simp, fun x hx y hy => ?_⟩
      obtain ⟨z, hz, rfl⟩ := List.mem_map.1 hx
      rw [List.map_cons, List.map_nil, List.mem_singleton] at hy
      subst hy
      exact fun e1 => hnd (stamp_inj hst (hsub z hz) hem e1 ▸ hz)
    · intro x hx
      rcases List.mem_append.1 hx with hx | hx
      · exact hsub x hx
      · rw [List.mem_singleton.1 hx]; exact hem
    · rcases hal with rfl | rfl <;> exact ⟨rfl, rfl, rfl, by simp [setBlock], fun i _ hi => hset.2 i (fun e1 => hi (by rw [e1]))⟩
    · rcases hal with rfl | rfl <;> simp [setBlock]
end
theorem heap_alloc_at {w : World} {k : Nat} {o o' : Obj} (h : w.heap[k]? = some o) : (w.alloc o').heap[k]? = some o := (Below.heap_alloc _ _ k (Array.getElem?_eq_some_iff.1 h).1).trans h
set_option maxRecDepth 100000 in
set_option maxHeartbeats 2000000 in
theorem equalD_calls {g : Gh} {b1 b2 : Nat} {ents1 ents2 : Array MapEntry} {clk1 clk2 : Nat} {l1 l2 : List Id} (w : World) (hb1 : w.heap[b1]? = some (.map ents1 clk1)) (hb2 : w.heap[b2]? = some (.map ents2 clk2))
    (hE1 : RelE g (setD l1) ents1.toList) (hE2 : RelE g (setD l2) ents2.toList) (hst : DS.Stamped ents1.toList clk1) (n1 : l1.Nodup) (n2 : l2.Nodup) :
    Calls Try.prog 72 #[.map (some b1), .map (some b2)] w fun e w' => e = .returned (.bool (sameP l1 l2)) ∧ w.grownBy w' none := by
  obtain ⟨k1, k2⟩ := keysD_ids hE1 (setD_keys' l1)
  have v1 := set_vals hE1
  have s1 : ents1.size = l1.length := by rw [← k2, List.length_map]; rfl
  have s2 : ents2.size = l2.length := by rw [← (keysD_ids hE2 (setD_keys' l2)).2, List.length_map]; rfl
  have HL : Aside (∀ (W : World) (x : Id), W.heap[b2]? = some (.map ents2 clk2) → (Instr.lookup 122 (.map (some b2)) (idVal x) true).run Try.prog W = .ok (.tuple #[.bool (decide (x ∈ l2)), .bool (decide (x ∈ l2))]) W) := fun W x hW => set_lookup hW hE2 x
  have HK : Aside (∀ e ∈ ents1.toList, e.key = idVal (idOf e.key) ∧ e.val = .bool true) := fun e he => ⟨k1 e he, v1 e he⟩
  have HM : Aside ((∀ x ∈ l1, ∃ e ∈ ents1.toList, idOf e.key = x) ∧ ∀ e ∈ ents1.toList, idOf e.key ∈ l1) := ⟨fun x hx => by rw [← k2] at hx; obtain ⟨e, he, h⟩ := List.mem_map.1 hx; exact ⟨e, he, h⟩, fun e he => by rw [← k2]; exact List.mem_map_of_mem (f := fun e : MapEntry => idOf e.key) he⟩
  clear k1 k2 v1
  have L1 : ∀ ty, (Builtin.len_ #[122] ty #[.map (some b1)]).run Try.prog w = .ok (.int .i64 (l1.length : Nat)) w := fun ty => by
    have := run_len_map (P := Try.prog) (w := w) 122 ty b1 ents1 clk1 (by kernel_rfl) hb1
    rw [s1] at this; exact this
  have L2 : ∀ ty, (Builtin.len_ #[122] ty #[.map (some b2)]).run Try.prog w = .ok (.int .i64 (l2.length : Nat)) w := fun ty => by
    have := run_len_map (P := Try.prog) (w := w) 122 ty b2 ents2 clk2 (by kernel_rfl) hb2
    rw [s2] at this; exact this
  generalize hres : sameP l1 l2 = res
  have RES : Aside (sameP l1 l2 = res) := hres
  clear hres hE1 hE2
  by_cases hsz : l1.length = l2.length
  · go_enter Try.func72, Try.ntmps72
    go_wp2_with (first
      | (at_range; refine wpList_range_raw rfl _ 122 27 4 rfl Try.underlying122 rfl hb1 ?_; intro hit0)
      | go_in)
    go_frame
    go_loopw [5] (fun _ wr => ∃ (done : List MapEntry), Iter wr b1 w.heap.size ents1 clk1 done ∧ wr.heap[b2]? = some (.map ents2 clk2) ∧ w.grownBy wr none ∧ ∀ e ∈ done, idOf e.key ∈ l2)
      (fun _ wr => wr.rangeLeft b1 w.heap.size)
    case atStart => exact ⟨[], hit0, heap_alloc_at hb2, World.grownBy_alloc w _ none, by simp⟩
    case round =>
      obtain ⟨done, hit, hb2r, hgw, hall⟩ := hrel
      have hl0 := hit.left_eq hst
      go_wp2_with (first
        | (at_next; refine wpList_next_ent rfl _ rfl rfl hit hst ?_ ?_)
        | go_in)
      · -- nothing is left
        intro hdone
        go_wp2
        go_ret
        refine ⟨?_, hgw⟩
        rw [← RES.out, same_len n1 n2 (fun x hx => ?_) hsz]
        · rfl
        · obtain ⟨e, he, rfl⟩ := HM.out.1 x hx
          exact hall e (hdone e (by simpa using he))
      · -- an entry has come
        intro e he hnd w2 hit2 hg2 hs2 hen
        have hl2 := hit2.left_eq hst
        rw [List.length_append, List.length_singleton] at hl2
        obtain ⟨hkey, hval⟩ := HK.out e (by simpa using he)
        obtain ⟨x, hx⟩ : ∃ x, idOf e.key = x := ⟨_, rfl⟩
        rw [hx] at hkey
        rw [hkey, hval] at hen ⊢
        obtain ⟨w3, hw3⟩ : ∃ w3, w2.alloc (.cells (encI x).toArray 27) = w3 := ⟨_, rfl⟩
        have hit3 : Iter w3 b1 w.heap.size ents1 clk1 (done ++ [e]) := by rw [← hw3]; exact hit2.walks (KeepsWalks.alloc _ _)
        have hc0 : w3.cell? ⟨w2.heap.size, 0, none⟩ = some (.int .i64 x.e) := by rw [← hw3, cell_new]; rfl
        have hc1 : w3.cell? ⟨w2.heap.size, 1, none⟩ = some (.int .i64 x.n) := by rw [← hw3, cell_new]; rfl
        have hc2 : w3.cell? ⟨w2.heap.size, 2, none⟩ = some (.int .i64 x.k) := by rw [← hw3, cell_new]; rfl
        have hlt2 : b2 < wr.heap.size := (Array.getElem?_eq_some_iff.1 hb2r).1
        have hb2w : w2.heap[b2]? = some (.map ents2 clk2) := (hg2.block b2 hlt2 (by have := (Array.getElem?_eq_some_iff.1 hb2).1; simp; omega)).trans hb2r
        have hb3 : w3.heap[b2]? = some (.map ents2 clk2) := by rw [← hw3]; exact heap_alloc_at hb2w
        have hgw2 : w.grownBy w2 none := hgw.andThen hg2 (fun j hj => by cases hj; exact Or.inl (Nat.le_refl _))
        have hgw3 : w.grownBy w3 none := by rw [← hw3]; exact hgw2.andThen (World.grownBy_alloc w2 _ none) (fun j hj => by cases hj)
        have HX := HL.out w3 x hb3
        have hl3 := hit3.left_eq hst
        rw [List.length_append, List.length_singleton] at hl3
        clear hb2w hlt2 hgw hgw2 hs2 hkey hval
        simp only [idVal, encI] at hen hw3 HX ⊢
        cases hd : decide (x ∈ l2)
        · rw [hd] at HX
          go_wp2
          go_ret
          refine ⟨?_, hgw3⟩
          have hxl : x ∈ l1 := by rw [← hx]; exact HM.out.2 e (by simpa using he)
          have : sameP l1 l2 = false := by
            rw [Bool.eq_false_iff]
            intro q
            have := (sameP_iff.1 q x).1 hxl
            simp [this] at hd
          rw [← RES.out, this]
          rfl
        · rw [hd] at HX
          go_wp2
          go_roundw
          case rel => exact ⟨done ++ [e], hit3, hb3, hgw3, fun e' he' => by
            rcases List.mem_append.1 he' with h | h
            · exact hall e' h
            · rw [List.mem_singleton.1 h, hx]; simpa using hd⟩
          case measure => omega
  · have hne : ¬ ((l1.length : Int) = (l2.length : Int)) := fun e => hsz (by exact_mod_cast e)
    go_enter Try.func72, Try.ntmps72
    go_wp2
    go_ret
    exact ⟨by rw [← RES.out, same_no n1 n2 hsz]; rfl, World.grownBy.refl _ _⟩
theorem equalDF_ok {args : List DV} {h : DHeap} {r : DV} {h' : DHeap} (hx : equalDF args h = some (r, h')) : CallOK Try.prog 72 args h r h' := by
  unfold equalDF at hx
  split at hx
  · rename_i h0 i j
    split at hx
    · rename_i es fs hi hj
      split at hx
      · rename_i hc
        obtain ⟨K1, K2, e1, e2⟩ := hc
        cases hx
        generalize es.map (fun e => keyD e.1) = l1 at *
        generalize fs.map (fun e => keyD e.1) = l2 at *
        subst e1; subst e2
        refine callOK_of fun g w vs hW hR => ?_
        obtain ⟨u, v, rfl, hu, hv⟩ := rel2 hR
        obtain ⟨_, rfl⟩ := mp_inv hu
        obtain ⟨_, rfl⟩ := mp_inv hv
        obtain ⟨ents1, clk1, a1, a2, a3, a4, a5⟩ := hW.obj i _ hi
        obtain ⟨ents2, clk2, b1, b2, b3, b4, b5⟩ := hW.obj j _ hj
        refine (equalD_calls w a1 b1 a4 b4 a5 K1.nodup K2.nodup).mono ?_
        rintro e w' ⟨rfl, hg⟩
        exact ⟨rfl, (Below.refl _ w).grown hg (Nat.le_refl _) (fun k e => by cases e), fun hm => nomatch hm⟩
      · cases hx
    · cases hx
  · cases hx
end Go.DS

/-
  Where instances stand: plain.
-/
namespace Go.DS
open Go
set_option linter.unusedVariables false
/-- Where an instance stands. -/
structure Att where
  seq : Int
  deps : List Id
structure Kno where
  id : Id
  cmd : Cmd
  att : Att
def mergeP (a b : Att) : Att := ⟨max a.seq b.seq, cleanP (a.deps ++ b.deps)⟩
def sameA (a b : Att) : Bool := decide (a.seq = b.seq) && sameP a.deps b.deps
def allA : List Att → Att
  | [] => ⟨0, []⟩
  | a :: l => (a :: l).foldl mergeP ⟨a.seq, []⟩
def validA (id : Id) (a : Att) : Bool := a.deps.all (fun x => decide (x ≠ id) && decide (x.e = id.e) && validI x) && (decide (0 ≤ a.seq) && decide (a.seq ≤ 1099511627776)) && decide (a.deps.length ≤ 1024) && rightI a.deps
def matters (id : Id) (c : Cmd) (x : Kno) : Bool := decide (x.id ≠ id) && decide (x.id.e = id.e) && bothB x.cmd c
def localP (l : List Kno) (id : Id) (c : Cmd) : Att := ⟨(l.filter (matters id c)).foldl (fun n x => max n x.att.seq) 0 + 1, cleanP ((l.filter (matters id c)).map (·.id))⟩
def linkedP (a b : Kno) : Bool := decide (a.id ∈ b.att.deps) || decide (b.id ∈ a.att.deps)
end Go.DS

/-
  Attributes, plain: what the laws say.
-/
namespace Go.DS
open Go
set_option linter.unusedVariables false
theorem sameA_iff {a b : Att} : sameA a b = true ↔ a.seq = b.seq ∧ ∀ x, x ∈ a.deps ↔ x ∈ b.deps := by
  simp only [sameA, Bool.and_eq_true, decide_eq_true_eq, sameP_iff]
theorem merge_mem {a b : Att} {x : Id} : x ∈ (mergeP a b).deps ↔ x ∈ a.deps ∨ x ∈ b.deps := by
  show x ∈ cleanP _ ↔ _
  rw [clean_mem, List.mem_append]
theorem merge_comm (a b : Att) : sameA (mergeP a b) (mergeP b a) = true :=
  sameA_iff.2 ⟨Int.max_comm _ _, fun x => by rw [merge_mem, merge_mem, or_comm]⟩
theorem merge_self (a : Att) : sameA (mergeP a a) a = true :=
  sameA_iff.2 ⟨Int.max_self _, fun x => by rw [merge_mem, or_self]⟩
theorem merge_all (a b c : Att) : sameA (mergeP (mergeP a b) c) (allA [c, b, a]) = true := by
  refine sameA_iff.2 ⟨?_, fun x => ?_⟩
  · show max (max a.seq b.seq) c.seq = max (max (max c.seq c.seq) b.seq) a.seq
    omega
  · show _ ↔ x ∈ (mergeP (mergeP (mergeP ⟨c.seq, []⟩ c) b) a).deps
    rw [merge_mem, merge_mem, merge_mem, merge_mem, merge_mem]
    simp only [List.not_mem_nil, false_or]
    constructor
    · rintro ((h | h) | h)
      · exact .inr h
      · exact .inl (.inr h)
      · exact .inl (.inl h)
    · rintro ((h | h) | h)
      · exact .inr h
      · exact .inl (.inr h)
      · exact .inl (.inl h)
theorem merge_right (a b : Att) : rightI (mergeP a b).deps = true := (rightI_iff _).2 (clean_rises _)
theorem merge_len (a b : Att) : (mergeP a b).deps.length ≤ a.deps.length + b.deps.length := by
  have := clean_len (a.deps ++ b.deps)
  rw [List.length_append] at this
  exact this
theorem validA_iff {id : Id} {a : Att} : validA id a = true ↔ (∀ x ∈ a.deps, x ≠ id ∧ x.e = id.e ∧ validI x = true) ∧ (0 ≤ a.seq ∧ a.seq ≤ 1099511627776) ∧ a.deps.length ≤ 1024 ∧ rightI a.deps = true := by
  simp only [validA, Bool.and_eq_true, List.all_eq_true, decide_eq_true_eq, and_assoc]
theorem merge_valid {id : Id} {a b : Att} (ha : validA id a = true) (hb : validA id b = true) (hl : a.deps.length + b.deps.length ≤ 1024) : validA id (mergeP a b) = true := by
  obtain ⟨a1, a2, a3, a4⟩ := validA_iff.1 ha
  obtain ⟨b1, b2, b3, b4⟩ := validA_iff.1 hb
  refine validA_iff.2 ⟨fun x hx => ?_, ?_, ?_, merge_right a b⟩
  · rcases merge_mem.1 hx with h | h
    · exact a1 x h
    · exact b1 x h
  · show 0 ≤ max a.seq b.seq ∧ max a.seq b.seq ≤ _
    omega
  · have := merge_len a b; omega
/-- One by one, each at its place. -/
def putP (l : List Id) (x : Id) : List Id := if x ∈ l then l else l.filter (fun y => decide (ordI y x < 0)) ++ x :: l.filter (fun y => !decide (ordI y x < 0))
def rcleanP (l : List Id) : List Id := l.foldl putP []
theorem put_mem {l : List Id} {x y : Id} : y ∈ putP l x ↔ y = x ∨ y ∈ l := by
  unfold putP
  split
  · rename_i h
    constructor
    · exact .inr
    · rintro (rfl | h')
      · exact h
      · exact h'
  · simp only [List.mem_append, List.mem_cons, List.mem_filter, Bool.not_eq_true', decide_eq_true_eq, decide_eq_false_iff_not]
    by_cases hy : ordI y x < 0
    · simp [hy]
      by_cases e : y = x
      · subst e; exact absurd hy (ordI_total.irrefl y)
      · simp [e]
    · simp [hy]
theorem put_rises {l : List Id} {x : Id} (h : Rises l) : Rises (putP l x) := by
  unfold putP
  split
  · exact h
  · rename_i hx
    unfold Rises
    rw [List.pairwise_append]
    refine ⟨h.filter _, ?_, ?_⟩
    · rw [List.pairwise_cons]
      refine ⟨fun y hy => ?_, h.filter _⟩
      obtain ⟨h1, h2⟩ := List.mem_filter.1 hy
      simp only [Bool.not_eq_true', decide_eq_false_iff_not] at h2
      exact Decidable.byContradiction fun h3 => hx (ordI_total.total y x h2 h3 ▸ h1)
    · intro y hy z hz
      obtain ⟨h1, h2⟩ := List.mem_filter.1 hy
      simp only [decide_eq_true_eq] at h2
      rcases List.mem_cons.1 hz with rfl | hz
      · exact h2
      · obtain ⟨h3, h4⟩ := List.mem_filter.1 hz
        simp only [Bool.not_eq_true', decide_eq_false_iff_not] at h4
        have h5 : ordI x z < 0 := Decidable.byContradiction fun h5 => hx (ordI_total.total z x h4 h5 ▸ h3)
        exact ordI_total.trans y x z h2 h5
theorem rclean_go (l m : List Id) (hm : Rises m) : Rises (l.foldl putP m) ∧ ∀ y, y ∈ l.foldl putP m ↔ y ∈ m ∨ y ∈ l := by
  induction l generalizing m with
  | nil => exact ⟨hm, by simp⟩
  | cons x l ih =>
    obtain ⟨h1, h2⟩ := ih (putP m x) (put_rises hm)
    refine ⟨h1, fun y => ?_⟩
    rw [List.foldl_cons, h2, put_mem, List.mem_cons]
    constructor
    · rintro ((h | h) | h)
      · exact .inr (.inl h)
      · exact .inl h
      · exact .inr (.inr h)
    · rintro (h | h | h)
      · exact .inl (.inr h)
      · exact .inl (.inl h)
      · exact .inr h
theorem rclean_eq (l : List Id) : rcleanP l = cleanP l := by
  obtain ⟨h1, h2⟩ := rclean_go l [] (by simp [Rises])
  exact rises_eq h1 (clean_rises l) fun x => by rw [clean_mem]; have := h2 x; simpa [rcleanP] using this
/-- Who is known first is seen. -/
theorem foldl_max_ge (l : List Kno) (n : Int) : n ≤ l.foldl (fun n x => max n x.att.seq) n ∧ ∀ x ∈ l, x.att.seq ≤ l.foldl (fun n x => max n x.att.seq) n := by
  induction l generalizing n with
  | nil => simp
  | cons x l ih =>
    obtain ⟨h1, h2⟩ := ih (max n x.att.seq)
    rw [List.foldl_cons]
    refine ⟨by omega, fun y hy => ?_⟩
    rcases List.mem_cons.1 hy with rfl | hy
    · omega
    · exact h2 y hy
theorem foldl_max_le (l : List Kno) (n B : Int) (hn : n ≤ B) (h : ∀ x ∈ l, x.att.seq ≤ B) : l.foldl (fun n x => max n x.att.seq) n ≤ B := by
  induction l generalizing n with
  | nil => exact hn
  | cons x l ih =>
    rw [List.foldl_cons]
    exact ih _ (by have := h x List.mem_cons_self; omega) fun y hy => h y (List.mem_cons_of_mem _ hy)
theorem local_sees {l : List Kno} {x : Kno} {id : Id} {c : Cmd} (h : matters id c x = true) : x.id ∈ (localP (l ++ [x]) id c).deps ∧ x.att.seq < (localP (l ++ [x]) id c).seq := by
  constructor
  · show x.id ∈ cleanP _
    rw [clean_mem]
    exact List.mem_map_of_mem (List.mem_filter.2 ⟨by simp, h⟩)
  · have := (foldl_max_ge ((l ++ [x]).filter (matters id c)) 0).2 x (List.mem_filter.2 ⟨by simp, h⟩)
    show _ < _ + 1
    omega
theorem local_skips {l : List Kno} {x : Kno} {id : Id} {c : Cmd} (h : matters id c x = false) : localP (l ++ [x]) id c = localP l id c := by
  simp [localP, List.filter_append, h]
theorem linked_comm (a b : Kno) : linkedP a b = linkedP b a := by unfold linkedP; rw [Bool.or_comm]
end Go.DS

/-
  What a book has: its keys, sorted.
-/
namespace Go.DS
open Go Go.Proofs Go.Shelf Go.RowKit Go.Sort Go.Maps Go.ChangeMaps Go.MapKept
set_option linter.unusedVariables false
set_option linter.unusedSimpArgs false
namespace KB
end KB
/-- Settings with what sorts instances. -/
noncomputable def extC (f : FuncId) : Option (List DV → DHeap → Option (DV × DHeap)) :=
  if f = 76 then some (keysDF Try.prog 81 78) else none
noncomputable def cfgC : Cfg := { cfg with ext := extC, look := fun _ => false, lookOK := fun _ hk => Bool.noConfusion hk }
theorem ext_okC : ExtS Try.prog cfgC := by
  intro k F hF args h r h' hx
  change extC k = some F at hF
  unfold extC at hF
  split at hF
  · rename_i hk; subst hk; cases hF; exact keysDF_ok hx
  cases hF
namespace MC
noncomputable abbrev cfg : Cfg := cfgC
set_option maxRecDepth 100000
@[go_sem] theorem ok76 : calleeOK Try.prog 76 = true := by kernel_rfl
@[go_sem] theorem ex76 : (cfg.ext 76).isSome = true := rfl
def cd73 : Cd := .seq (R [c0 2 (.tk (.c (.sc (.map none))))] [0, 7]) (.seq (R [c0 8 (.mkm), c0 3 (.tk (.s 8))] [0, 3, 7]) (.seq (.seq (R [c0 9 (.mv (.s 0)), c0 10 (.len 1 (.s 9)), c0 11 (.mv (.c (ki .i64 0)))] [3, 7, 9, 10, 11]) (.block 0 (LP [3, 7, 9, 10, 11] (.seq (R [c0 12 (.bin .lss .any (.s 11) (.s 10))] [3, 7, 9, 10, 11, 12]) (.seq (.ite (.s 12) (.skip) (.exit 0)) (.seq (.block 1 (.seq (R [c0 13 (.ixp 1 (.s 9) (.s 11)), c0 14 (.ldx true false 5 (.s 13)), c0 5 (.tk (.s 14))] [3, 5, 7, 9, 10, 11]) (.seq (R [c0 15 (.mv (.s 5)), c0 16 (.len 1 (.s 15)), c0 17 (.mv (.c (ki .i64 0)))] [3, 7, 9, 10, 11, 15, 16, 17]) (.block 2 (LP [3, 7, 9, 10, 11, 15, 16, 17] (.seq (R [c0 18 (.bin .lss .any (.s 17) (.s 16))] [3, 7, 9, 10, 11, 15, 16, 17, 18]) (.seq (.ite (.s 18) (.skip) (.exit 2)) (.seq (.block 3 (.seq (R [c0 19 (.ixp 3 (.s 15) (.s 17)), c0 20 (.ld true 3 (.s 19)), c0 7 (.new false (.c (.agg [ki .i64 0, ki .i64 0, ki .i64 0]))), cn (.st 3 (.s 7) (.s 20))] [3, 7, 9, 10, 11, 15, 16, 17]) (R [c0 21 (.mv (.s 3)), c0 22 (.ld true 3 (.s 7)), cn (.mup [0, 0, 0] true 3 (.s 21) (.s 22) (.c (kb true)))] [3, 7, 9, 10, 11, 15, 16, 17]))) (R [c0 23 (.bin .add .any (.s 17) (.c (ki .i64 1))), c0 17 (.mv (.s 23))] [3, 7, 9, 10, 11, 15, 16, 17]))))))))) (R [c0 24 (.bin .add .any (.s 11) (.c (ki .i64 1))), c0 11 (.mv (.s 24))] [3, 7, 9, 10, 11]))))))) (.seq (R [c0 25 (.mv (.s 3)), c0 2 (.tk (.s 25))] [2, 7]) (.ret))))
theorem fun73 : Fun Try.prog cfg 73 26 cd73 [.s 2] := ⟨rfl, Try.f73, _, Try.func73, rfl, rfl, by kernel_rfl, by kernel_rfl⟩
@[go_sem] theorem ok73 : calleeOK Try.prog 73 = true := by kernel_rfl
@[go_sem] theorem ex73 : (cfg.ext 73).isSome = false := rfl
def cd77 : Cd := .seq (R [c0 1 (.new true (.s 0)), c0 2 (.tk (.c (.sc .nilFunc)))] [1]) (.seq (R [c0 3 (.mkf (.func 81) 0 [(.s 1)]), c0 2 (.tk (.s 3))] [1, 2]) (.ret))
theorem fun77 : Fun Try.prog cfg 77 4 cd77 [.s 2] := ⟨rfl, Try.f77, _, Try.func77, rfl, rfl, by kernel_rfl, by kernel_rfl⟩
@[go_sem] theorem ok77 : calleeOK Try.prog 77 = true := by kernel_rfl
@[go_sem] theorem ex77 : (cfg.ext 77).isSome = false := rfl
def cd75 : Cd := .seq (R [c0 2 (.tk (.c (kn 3)))] [0]) (.seq (R [c0 3 (.mv (.s 0)), c0 4 (.call none (.c (kf 77)) [(.s 3)]), c0 5 (.call none (.c (kf 76)) [(.s 4), (.c (kf 78))]), c0 2 (.tk (.s 5))] [2]) (.ret))
theorem fun75 : Fun Try.prog cfg 75 6 cd75 [.s 2] := ⟨rfl, Try.f75, _, Try.func75, rfl, rfl, by kernel_rfl, by kernel_rfl⟩
@[go_sem] theorem ok75 : calleeOK Try.prog 75 = true := by kernel_rfl
@[go_sem] theorem ex75 : (cfg.ext 75).isSome = false := rfl
variable {h : DHeap}
theorem ordIOK : OrdIOK Try.prog 78 := ⟨by kernel_rfl, fun a b => @lim_sound ⟨true⟩ _ _ ext_okA _ _ _ _ _ (MI.ordD_lim (h := []) a b)⟩
theorem set_setD (c : Id) : ∀ l : List Id, setKey [0, 0, 0] (.agg [vi c.e, vi c.n, vi c.k]) (.sc (.bool true)) (setD l) = some (setD (insI c l))
  | [] => rfl
  | d :: l => by
    have ih := set_setD c l
    simp only [setD] at ih
    simp only [setD, List.map_cons, setKey, eqK_id]
    by_cases h : c = d
    · subst h; simp [insI]
    · simp only [h, decide_false, ih, Option.map_some, Option.some.injEq]
      have : insI c (d :: l) = d :: insI c l := by
        unfold insI
        simp only [List.mem_cons, h, false_or]
        split <;> rfl
      rw [this]; rfl
/-- Rows of rows of instances. -/
def idrs (ls : List (List Id)) : List (List DV) := ls.map fun l => [.list false 3 (idr l)]
@[go_sem] theorem idrs_len (l : List (List Id)) : (idrs l).length = l.length := by simp [idrs]
@[go_sem high] theorem idxP_idrs (l : List (List Id)) (i : Int) (N : List DV → Prop) : IdxP (idrs l) i N = IdxP l i fun c => N [.list false 3 (idr c)] := idxP_map
theorem flatI_take (ls : List (List Id)) (k : Nat) (hk : k < ls.length) : (ls.take (k + 1)).flatten = (ls.take k).flatten ++ ls[k] := by
  rw [List.take_succ_eq_append_getElem hk, List.flatten_append, List.flatten_cons, List.flatten_nil, List.append_nil]
theorem mapNew (h : DHeap) (o : DObj) : (h ++ [o])[h.length]? = some o := by simp
theorem mapP_new (h : DHeap) (es : List (DV × DV)) (N : List (DV × DV) → Prop) : MapP (h ++ [.map es]) h.length N = N es := by simp [MapP]
theorem set_new (h : DHeap) (o o' : DObj) : (h ++ [o]).set h.length o' = h ++ [o'] := by simp
theorem ofD_lim (own : Bool) (ls : List (List Id)) (hl : ls.length ≤ 1000000) (hs : ∀ l ∈ ls, l.length ≤ 1099511627776) :
    lim Try.prog cfg 73 [.list own 1 (idrs ls)] h = some (.mp h.length, h ++ [.map (setD (setOf ls.flatten))]) := by
  refine lim_fun fun73 rfl (by simp) rfl ?_
  delta cd73
  simp -implicitDefEqProofs -dsimp only [go_sem]
  refine wp_for (σ := Nat × DV) (fun k => [(3, .mp h.length), (7, k.2), (9, .list false 1 (idrs ls)), (10, vi (ls.length : Nat)), (11, vi (k.1 : Nat))]) (fun k => h ++ [.map (setD (setOf (ls.take k.1).flatten))]) (fun k => ls.length - k.1) (fun k => k.1 ≤ ls.length) (0, .junk) (by simp) rfl rfl ?_
  rintro ⟨k, x⟩ hk N hN
  dsimp only at hk ⊢
  by_cases hlt : k < ls.length
  · have h1 : ((k : Int) < (ls.length : Int)) := by omega
    have hll := hs _ (List.getElem_mem hlt)
    simp -implicitDefEqProofs -dsimp only [go_sem, h1, hlt]
    refine wp_for (σ := Nat × DV) (fun j => [(3, .mp h.length), (7, j.2), (9, .list false 1 (idrs ls)), (10, vi (ls.length : Nat)), (11, vi (k : Nat)), (15, .list false 3 (idr ls[k])), (16, vi (ls[k].length : Nat)), (17, vi (j.1 : Nat))]) (fun j => h ++ [DObj.map (setD (setOf ((ls.take k).flatten ++ ls[k].take j.1)))]) (fun j => ls[k].length - j.1) (fun j => j.1 ≤ ls[k].length) (0, x) (by simp) rfl (by simp) ?_
    rintro ⟨j, y⟩ hj M hM
    dsimp only at hj ⊢
    by_cases hjt : j < ls[k].length
    · have h2 : ((j : Int) < (ls[k].length : Int)) := by omega
      have e : insI ls[k][j] (setOf ((ls.take k).flatten ++ ls[k].take j)) = setOf ((ls.take k).flatten ++ ls[k].take (j + 1)) := by
        rw [List.take_succ_eq_append_getElem hjt, ← List.append_assoc, setOf_snoc]
      simp -implicitDefEqProofs -dsimp only [go_sem, h2, hjt, mapP_new, set_setD, set_new, e]
      refine hM (j + 1, .box [vi ls[k][j].e, vi ls[k][j].n, vi ls[k][j].k]) _ (by dsimp only; omega) (by dsimp only; omega) ?_
      simp -implicitDefEqProofs -dsimp only [go_sem, wrap_succ (show j < 9223372036854775807 by omega)]
    · have h2 : ¬ ((j : Int) < (ls[k].length : Int)) := by omega
      have hj2 : ls[k].take j = ls[k] := List.take_of_length_le (by omega)
      simp -implicitDefEqProofs -dsimp only [go_sem, h2]
      rw [hj2, ← flatI_take ls k hlt]
      refine hN (k + 1, y) _ (by dsimp only; omega) (by dsimp only; omega) ?_
      simp -implicitDefEqProofs -dsimp only [go_sem, wrap_succ (show k < 9223372036854775807 by omega)]
  · have h1 : ¬ ((k : Int) < (ls.length : Int)) := by omega
    have hkl : ls.take k = ls := List.take_of_length_le (by omega)
    rw [hkl]
    simp -implicitDefEqProofs -dsimp only [go_sem, h1]
theorem keysD_lim (j : Nat) : lim Try.prog cfg 77 [.mp j] h = some (.fn (.func 81) [] [.ptr h.length 0], h ++ [.cells [.mp j]]) := by
  refine lim_fun fun77 rfl (by simp) rfl ?_
  delta cd77
  simp -implicitDefEqProofs -dsimp only [go_sem]
theorem setD_keys (l : List Id) : (setD l).map (fun e => keyD e.1) = l := by
  simp only [setD, List.map_map]
  exact (List.map_congr_left fun e _ => rfl).trans (List.map_id l)
theorem keysDOK {l : List Id} (hn : l.Nodup) (hl : l.length ≤ 1048576) : KeysDOK (setD l) l := ⟨by simp only [setD, List.map_map]; rfl, hn, hl⟩
theorem sortedD_lim {i j : Nat} {l : List Id} (hn : l.Nodup) (hl : l.length ≤ 1048576) (hi : h[i]? = some (.cells [.mp j])) (hj : h[j]? = some (.map (setD l))) :
    lim Try.prog cfg 76 [.fn (.func 81) [] [.ptr i 0], .fn (.func 78) [] []] h = some (.list true 3 (idr (sortD l)), h) := by
  refine lim_ext rfl ?_ rfl
  show keysDF _ _ _ [.fn (.func 81) [] [.ptr i 0], .fn (.func 78) [] []] h = _
  simp only [keysDF, hi, hj]
  generalize hks : (setD l).map (fun e => keyD e.1) = ks
  rw [setD_keys] at hks
  subst hks
  rw [if_pos ⟨rfl, rfl, keysDOK hn hl, ordIOK⟩]
theorem listD_lim {j : Nat} {l : List Id} (hn : l.Nodup) (hl : l.length ≤ 1048576) (hj : h[j]? = some (.map (setD l))) :
    lim Try.prog cfg 75 [.mp j] h = some (.list true 3 (idr (sortD l)), h ++ [.cells [.mp j]]) := by
  refine lim_fun fun75 rfl (by simp) rfl ?_
  delta cd75
  have e1 := keysD_lim (h := h) j
  have e2 := sortedD_lim (h := h ++ [.cells [.mp j]]) (i := h.length) (j := j) hn hl (by simp) (by rw [List.getElem?_append_left (List.getElem?_eq_some_iff.1 hj).1]; exact hj)
  simp -implicitDefEqProofs -dsimp only [go_sem, e1, e2]
end MC
theorem book_cell {g : Gh} {h : DHeap} {w : World} (hW : WInv g h w) {i j : Nat} {a b c : DV} (hi : h[i]? = some (.cells [a, b, c, .mp j])) : w.cell? ⟨g.η i, 3, none⟩ = some (.map (some (g.η j))) := by
  obtain ⟨us, et, a1, a2, a3, a4, a5⟩ := hW.obj i _ hi
  obtain ⟨u0, r0, h0, _, hr0⟩ := a4.cons_inv
  obtain ⟨u1, r1, h1, _, hr1⟩ := hr0.cons_inv
  obtain ⟨u2, r2, h2, _, hr2⟩ := hr1.cons_inv
  obtain ⟨u3, r3, h3, hu3, hr3⟩ := hr2.cons_inv
  obtain ⟨_, rfl⟩ := mp_inv hu3
  have : us[3]? = some (.map (some (g.η j))) := by rw [← Array.getElem?_toList, h0, h1, h2, h3]; rfl
  simp [World.cell?, a1, this]
end Go.DS

/-
  slices.Clone.
-/
namespace Go.DS
open Go Go.Proofs Go.Shelf Go.RowKit Go.Lib
set_option linter.unusedVariables false
set_option linter.unusedSimpArgs false
set_option maxHeartbeats 2000000 in
set_option maxRecDepth 100000 in
/-- Of an empty slice that is not nil. -/
theorem cloneE0 {P : Program} {ρ : Ren} (L : SlLaysE0.n41 P ρ) (i0 : TypeInfo) (z : Value) (size bytes : Nat) (hi : P.info? (ρ.t 23) = some i0) (hz0 : i0.zero = some z) (hz1 : i0.size = size) (hz2 : i0.bytes = bytes) (hzs : z.cells.size = size) (hsz : 0 < size)
    (z23 : ∀ w, (Go.sizeOf (ρ.t 23)).run P w = .ok size w) (ad : Addr) (c : Nat) (w : World) :
    Calls P (ρ.f 41) #[.slice (some ad) 0 c] w fun e w' => ∃ v', e = .returned v' ∧ w'.ownsRow w.heap.size (ρ.t 23) size v' 0 [] ∧ Below w.heap.size w w' := by
  have mixed := L.mixed; have t4 := L.t4; have a4 := L.a4; have z4 := L.z4; have v4 := L.v4; have t22 := L.t22; have a22 := L.a22; have z22 := L.z22; have v22 := L.v22
  have q22 : ∀ (w : World) (a : Option Addr) (n c n' c' : Nat), (binOp .eql (ρ.t 22) (.slice a n c) (.slice none n' c')).run P w = .ok (.bool a.isNone) w := fun w a n c n' c' => Lib.run_eql_slice_nil w _ _ a n c n' c' L.t22
  have u22 : ∀ w, Sem.run P (underlying (ρ.t 22)) w = .ok (TypeDesc.slice (ρ.t 23)) w := run_underlying t22
  obtain ⟨_, _, FG⟩ := L.f41
  go_enter FG, SlBodyN.n41_ntmps ρ
  go_wp2_with (at_builtin; refine wpList_append_own _ rfl _ _ (ρ.t 22) rfl w.heap.size (ρ.t 23) i0 z size bytes t22 hi hz0 hz1 hz2 hzs hsz _ _ _ rfl (World.ownsRow_made w #[] 0 (Nat.le_refl _) (Nat.zero_le _) (by simp)) ad 0 c [] rfl ?qc1 ?qc2 ?qc3 ?qc4 ?qc5 ?qc6 ?_)
  case qc1 => simp
  case qc2 => intro j u hj; simp at hj
  case qc3 => intro u hu; simp at hu
  case qc4 => simp
  case qc5 => simp
  case qc6 => simp
  intro v' w1 hown hgrow hnil
  go_wp2
  go_ret
  exact ⟨v', rfl, by simpa using hown, ((Below.refl _ w).alloc (Nat.le_refl _) _).grown hgrow (by simp) (by intro k hk; simp [Value.ownBlock] at hk; omega)⟩
theorem cloneL_ok_of {P : Program} {ρ : Ren} (L : SlLaysE0.n41 P ρ) (i0 : TypeInfo) (z : Value) (size bytes : Nat) (hi : P.info? (ρ.t 23) = some i0) (hz0 : i0.zero = some z) (hz1 : i0.size = size) (hz2 : i0.bytes = bytes) (hzs : z.cells.size = size) (hsz : 0 < size)
    (hbb : bytes ≤ 1048576) (z23 : ∀ w, (Go.sizeOf (ρ.t 23)).run P w = .ok size w) {args : List DV} {h : DHeap} {r : DV} {h' : DHeap} (hx : cloneLF size args h = some (r, h')) : CallOK P (ρ.f 41) args h r h' := by
  unfold cloneLF at hx
  split at hx
  · rename_i h0 own es l
    split at hx
    · rename_i hc
      obtain ⟨rfl, hlen, hrow, hcell⟩ := hc
      cases hx
      refine callOK_row hrow hcell fun g w vs hW hR => ?_
      obtain ⟨u, rfl, hu⟩ := rel1 hR
      cases hu with
      | list h1 h2 h3 h4 h5 =>
        rename_i cap b off vs
        have hfl : l.flatten.length = l.length * es := by
          clear h3 h4 h5 hR hlen hcell h1
          induction l with
          | nil => simp
          | cons x l ih =>
            rw [List.flatten_cons, List.length_append, h2 x List.mem_cons_self, ih (fun r hr => hrow r (List.mem_cons_of_mem _ hr)) (fun r hr => h2 r (List.mem_cons_of_mem _ hr)), List.length_cons, Nat.succ_mul, Nat.add_comm]
        refine (AnyE.slices_Clone L i0 z es bytes hi hz0 hz1 hz2 hzs hsz z23 b off l.length cap vs w (by rw [← h3, hfl]) (by simp only [maxLen]; omega) ?_ (fun j u hj => hW.pc _ _ _ (h5 j u hj)) (fun u hu => by
          obtain ⟨j, hj, rfl⟩ := List.getElem_of_mem hu
          exact g.one _ _ _ (h5 j _ (List.getElem?_eq_getElem hj)))).mono ?_
        · calc l.length * bytes ≤ 1048576 * 1048576 := Nat.mul_le_mul hlen hbb
            _ ≤ 140737488355328 := by decide
        · rintro e w' ⟨v', rfl, hr, _, hb⟩
          exact ⟨v', vs, _, rfl, hb, hr, ⟨h3, h4⟩⟩
      | empty =>
        rename_i a cap
        cases a with
        | none =>
          refine (AnyE.slices_Clone_nil L 0 cap w).mono ?_
          rintro e w' ⟨rfl, rfl⟩
          exact ⟨_, [], ρ.t 23, rfl, .refl _ _, ⟨by simp, .inl ⟨rfl, rfl⟩⟩, .nil _⟩
        | some ad =>
          refine (cloneE0 L i0 z es bytes hi hz0 hz1 hz2 hzs hsz z23 ad cap w).mono ?_
          rintro e w' ⟨v', rfl, hr, hb⟩
          exact ⟨v', [], _, rfl, hb, hr, .nil _⟩
    · cases hx
  · cases hx
theorem infoC {P : Program} {t : TypeId} {z : Value} {s b : Nat} (h : (P.info? t).map (fun i => (i.zero, i.size, i.bytes)) = some (some z, s, b)) : ∃ i, P.info? t = some i ∧ i.zero = some z ∧ i.size = s ∧ i.bytes = b := by
  cases hi : P.info? t with
  | none => rw [hi] at h; cases h
  | some i => rw [hi] at h; simp only [Option.map_some, Option.some.injEq, Prod.mk.injEq] at h; exact ⟨i, rfl, h.1, h.2.1, h.2.2⟩
def cllaysI_ren : Ren := ⟨fun | 41 => 31 | n => n,
  fun | 22 => 22 | 23 => 3 | 4 => 4 | n => n,
  fun n => n⟩
theorem cllaysI : SlLaysE0.n41 Try.prog cllaysI_ren where
  mixed := by kernel_rfl
  f41 := ⟨"slices.Clone[[]int,int]", of_decide_eq_true (by kernel_rfl), Try.func31.trans (congrArg some (by kernel_rfl))⟩
  t4 := Try.underlying4
  a4 := Try.isAgg4
  z4 := Try.sizeOf4
  v4 := Try.zeroValue4
  t22 := Try.underlying22
  a22 := Try.isAgg22
  z22 := Try.sizeOf22
  v22 := Try.zeroValue22
theorem cllaysI_ok {args : List DV} {h : DHeap} {r : DV} {h' : DHeap} (hx : cloneLF 1 args h = some (r, h')) : CallOK Try.prog 31 args h r h' := by
  obtain ⟨i0, hi, hz0, hz1, hz2⟩ := infoC (P := Try.prog) (t := 3) (z := .int .i64 0) (s := 1) (b := 8) (by kernel_rfl)
  exact cloneL_ok_of cllaysI i0 (.int .i64 0) 1 8 hi hz0 hz1 hz2 rfl (by decide) (by decide) Try.sizeOf3 hx
def cllaysD_ren : Ren := ⟨fun | 41 => 51 | n => n,
  fun | 22 => 34 | 23 => 27 | 4 => 4 | n => n,
  fun n => n⟩
theorem cllaysD : SlLaysE0.n41 Try.prog cllaysD_ren where
  mixed := by kernel_rfl
  f41 := ⟨"slices.Clone[[]syndic/api.ID,syndic/api.ID]", of_decide_eq_true (by kernel_rfl), Try.func51.trans (congrArg some (by kernel_rfl))⟩
  t4 := Try.underlying4
  a4 := Try.isAgg4
  z4 := Try.sizeOf4
  v4 := Try.zeroValue4
  t22 := Try.underlying34
  a22 := Try.isAgg34
  z22 := Try.sizeOf34
  v22 := Try.zeroValue34
theorem cllaysD_ok {args : List DV} {h : DHeap} {r : DV} {h' : DHeap} (hx : cloneLF 3 args h = some (r, h')) : CallOK Try.prog 51 args h r h' := by
  obtain ⟨i0, hi, hz0, hz1, hz2⟩ := infoC (P := Try.prog) (t := 27) (z := .agg #[.int .i64 0, .int .i64 0, .int .i64 0]) (s := 3) (b := 24) (by kernel_rfl)
  exact cloneL_ok_of cllaysD i0 (.agg #[.int .i64 0, .int .i64 0, .int .i64 0]) 3 24 hi hz0 hz1 hz2 rfl (by decide) (by decide) Try.sizeOf27 hx
end Go.DS

/-
  slices.IndexFunc, slices.DeleteFunc of whole numbers, by a bound function that may lay blocks.
-/
namespace Go.DS
open Go Go.Proofs Go.Shelf Go.RowKit Go.Lib Go.Sort
set_option linter.unusedVariables false
set_option linter.unusedSimpArgs false
abbrev encZ : Int → Value := Value.int .i64
theorem oneZ : OneCell encZ := fun _ => rfl
set_option maxRecDepth 1000000 in
set_option maxHeartbeats 4000000 in
theorem idxF_calls {I : World → Prop} {b : Nat} {g : Nat} {rp : Value} {p : Int → Bool} {cap : Nat} (d : Array Int) (eg : ∀ args w, (callFunc g args).run Try.prog w = .ok (.enter g args) w)
    (HP : ∀ W (dk : Array Int) (u : Int), I W → Holds encZ W b 0 dk → dk.size = d.size → Calls Try.prog g #[rp, encZ u] W fun e w' => e = .returned (.bool (p u)) ∧ I w' ∧ Holds encZ w' b 0 dk)
    (w : World) (hI : I w) (hH : Holds encZ w b 0 d) (hsz : d.size ≤ 9223372036854775807) (hcap : d.size ≤ cap) :
    Calls Try.prog 47 #[.slice (some ⟨b, 0, none⟩) d.size cap, .func (.func g) #[rp] #[]] w fun e w' => e = .returned (.int .i64 (Lib.idxBy (fun _ y => p y) d.toList default)) ∧ I w' ∧ Holds encZ w' b 0 d := by
  have HC : Aside _ := HP
  clear HP
  have tl : ∀ j, j < d.size → d.toList[j]! = d[j]! := fun j hj => by rw [getElem!_pos d j hj, getElem!_pos d.toList j (by simpa using hj)]; simp
  have TL : Aside _ := tl
  clear tl
  go_enter Try.func47, Try.ntmps47
  go_wp2
  go_loopg [5, 8] d.size (fun gg _ s8 wr => ∃ kk : Nat, kk ≤ d.size ∧ d.size - kk ≤ gg ∧ s8 = .int .i64 kk ∧ Aside (I wr ∧ Holds encZ wr b 0 d) ∧ Aside (∀ j, j < kk → p d[j]! = false))
  case atStart => exact ⟨0, Nat.zero_le _, by omega, rfl, ⟨hI, hH⟩, fun j hj => absurd hj (Nat.not_lt_zero _)⟩
  case round =>
    obtain ⟨kk, hkk, hg, rfl, J, A⟩ := hrel
    by_cases hlt : kk < d.size
    · have hltz : (kk : Int) < (d.size : Int) := by omega
      have hcell : wr.cell? ⟨b, kk, none⟩ = some (encZ d[kk]!) := by have := (J.out.2 kk hlt).1; rwa [Nat.zero_add] at this
      generalize hy : d[kk]! = y at hcell
      have B : Aside (d[kk]! = y) := hy
      clear hy
      have hcall := HC.out wr d y J.out.1 J.out.2 rfl
      cases hq : p y with
      | true =>
        rw [hq] at hcall
        go_wp2_with (go_at_fn g; refine hcall.mono ?_; rintro e w' ⟨rfl, hI', hH'⟩)
        go_ret
        refine ⟨?_, hI', hH'⟩
        have e := Lib.idxBy_hit (fun _ y => p y) d.toList d.size kk default hlt (by simp) (by show p d.toList[kk]! = true; rw [TL.out kk hlt, B.out]; exact hq) (fun j hj => by show p d.toList[j]! = false; rw [TL.out j (by omega)]; exact A.out j hj)
        rw [List.take_of_length_le (by simp)] at e
        rw [e]
        rfl
      | false =>
        rw [hq] at hcall
        go_wp2_with (go_at_fn g; refine hcall.mono ?_; rintro e w' ⟨rfl, hI', hH'⟩)
        go_roundg (d.size - (kk + 1))
        case measure => omega
        case rel =>
          refine ⟨kk + 1, by omega, by omega, by go_num, (show Aside _ from ⟨hI', hH'⟩), (show Aside _ from fun j hj => ?_)⟩
          by_cases e : j = kk
          · subst e
            rw [B.out]; exact hq
          · exact A.out j (by omega)
    · have hltz : ¬ (kk : Int) < (d.size : Int) := by omega
      have : kk = d.size := by omega
      subst this
      go_wp2
      go_ret
      refine ⟨?_, J.out.1, J.out.2⟩
      have e := Lib.idxBy_miss (fun _ y => p y) d.toList d.size default (fun j hj => by show p d.toList[j]! = false; rw [TL.out j (by omega)]; exact A.out j hj)
      rw [List.take_of_length_le (by simp)] at e
      show _ = Ending.returned (.int .i64 (Lib.idxBy (fun _ y => p y) d.toList default))
      rw [e]
      rfl
set_option maxRecDepth 1000000 in
set_option maxHeartbeats 4000000 in
theorem delF_calls {I : World → Prop} {b : Nat} {g : Nat} {rp : Value} {p : Int → Bool} {cap : Nat} (d : Array Int) (eg : ∀ args w, (callFunc g args).run Try.prog w = .ok (.enter g args) w)
    (HP : ∀ W (dk : Array Int) (u : Int), I W → Holds encZ W b 0 dk → dk.size = d.size → Calls Try.prog g #[rp, encZ u] W fun e w' => e = .returned (.bool (p u)) ∧ I w' ∧ Holds encZ w' b 0 dk)
    (HW : ∀ W (dk : Array Int), I W → dk.size = d.size → I (putRow encZ W b 0 dk))
    (w : World) (hI : I w) (hH : Holds encZ w b 0 d) (hsz : d.size ≤ 9223372036854775807) (hcap : d.size ≤ cap) :
    Calls Try.prog 30 #[.slice (some ⟨b, 0, none⟩) d.size cap, .func (.func g) #[rp] #[]] w fun e w' => e = .returned (.slice (some ⟨b, 0, none⟩) (d.toList.filter fun x => !p x).length cap) ∧ I w' ∧
      Holds encZ w' b 0 ((d.toList.filter fun x => !p x) ++ List.replicate (d.size - (d.toList.filter fun x => !p x).length) 0).toArray := by
  have tl : ∀ j, j < d.size → d.toList[j]! = d[j]! := fun j hj => by rw [getElem!_pos d j hj, getElem!_pos d.toList j (by simpa using hj)]; simp
  have hIF := idxF_calls d eg HP w hI hH hsz hcap
  obtain ⟨kp, HK⟩ : ∃ kp : Nat → Bool, Hid (kp = fun j => !p d[j]!) := ⟨_, rfl⟩
  have hfil : (d.toList.filter fun x => !p x) = keptUpTo kp d d.size := by rw [HK.out]; exact (keptUpTo_filter (fun x => !p x) d).symm
  rw [hfil]
  rcases idxByFrom_spec (fun _ y => p y) default d.toList 0 with ⟨e1, hall⟩ | ⟨k0, hk0, e1, ht, hall⟩
  · have e2 : Lib.idxBy (fun _ y => p y) d.toList default = -1 := e1
    rw [e2] at hIF
    have hkeep : ∀ j, j < d.size → kp j = true := fun j hj => by rw [HK.out]; show (!p d[j]!) = true; rw [← tl j hj, hall j (by simpa using hj)]; rfl
    have e3 : keptUpTo kp d d.size = d.toList := by rw [keptUpTo_all kp d _ hkeep, range_map_get]
    clear HP HW hH hI
    go_enter Try.func30, Try.ntmps30
    go_wp2_with (go_at_call 47; refine hIF.mono ?_; rintro e w' ⟨rfl, hI', hH'⟩)
    go_ret
    rw [e3]
    refine ⟨by simp, hI', ?_⟩
    simp only [Array.length_toList, Nat.sub_self, List.replicate_zero, List.append_nil, Array.toArray_toList]
    exact hH'
  · have hk0' : k0 < d.size := by simpa using hk0
    have e2 : Lib.idxBy (fun _ y => p y) d.toList default = (k0 : Int) := by unfold Lib.idxBy; rw [e1]; simp
    rw [e2] at hIF
    have hkeep : ∀ j, j < k0 → kp j = true := fun j hj => by rw [HK.out]; show (!p d[j]!) = true; rw [← tl j (by omega), hall j hj]; rfl
    have hdrop : kp k0 = false := by rw [HK.out]; show (!p d[k0]!) = false; rw [← tl k0 hk0']; rw [show p d.toList[k0]! = true from ht]; rfl
    have hne1 : ((k0 : Int) == -1) = false := beq_eq_false_iff_ne.2 (by omega)
    have HC : Aside _ := HP
    have HWA : Aside _ := HW
    have v23 : ∀ w, (zeroValue 3).run Try.prog w = .ok (encZ 0) w := Try.zeroValue3
    clear HP HW hH hI hall ht e1 e2 tl
    go_enter Try.func30, Try.ntmps30
    go_wp2_with (go_at_call 47; refine hIF.mono ?_; rintro e w' ⟨rfl, hI', hH'⟩)
    go_loopg [5, 6, 7] d.size (fun gg s5 s6 _ wr => ∃ (i j : Nat) (dk : Array Int), s5 = .int .i64 i ∧ s6 = .int .i64 j ∧ j ≤ d.size ∧ d.size - j ≤ gg ∧ Aside (I wr ∧ Holds encZ wr b 0 dk) ∧ Aside (KeptInv kp d j i dk))
    case atStart => exact ⟨k0, k0 + 1, d, rfl, by go_num, by omega, by omega, ⟨hI', hH'⟩, KeptInv.start hkeep hdrop⟩
    case round =>
      obtain ⟨i, j, dk, rfl, rfl, hjd, hgg, J, I2⟩ := hrel
      have hI := I2.out
      have hij := hI.lt
      have hds := hI.size
      by_cases hlt : j < d.size
      · have hltz : (j : Int) < (d.size : Int) := by omega
        obtain ⟨cj, _⟩ := J.out.2 j (by omega)
        obtain ⟨ci, fi⟩ := J.out.2 i (by omega)
        rw [hI.high j (by omega)] at cj
        rw [Nat.zero_add] at cj ci fi
        have hcall := HC.out wr dk d[j]! J.out.1 J.out.2 hds
        clear hI
        generalize hu : d[j]! = u at cj hcall
        generalize dk[i]! = old at ci
        have C : Aside (d[j]! = u) := hu
        clear hu
        cases hq : p u with
        | false =>
          rw [hq] at hcall
          go_wp2_with (go_at_fn g; refine hcall.mono ?_; rintro e w2 ⟨rfl, hI2, hH2⟩; have ci2 : w2.cell? ⟨b, i, none⟩ = some (encZ dk[i]!) := (by have := (hH2 i (by omega)).1; rwa [Nat.zero_add] at this); have fi2 : w2.frozen? ⟨b, i, none⟩ = false := (by have := (hH2 i (by omega)).2; rwa [Nat.zero_add] at this))
          go_roundg (d.size - (j + 1))
          case measure => omega
          case rel =>
            have hs := putRow_self encZ w2 b 0 dk hH2
            have hset := putRow_set encZ w2 b 0 dk i u (by omega)
            rw [hs, Nat.zero_add] at hset
            refine ⟨i + 1, j + 1, dk.setIfInBounds i u, by go_num, by go_num, by omega, Nat.le_refl _, (show Aside _ from ⟨?_, ?_⟩), (show Aside _ from ?_)⟩
            · rw [hset]; exact HWA.out _ _ hI2 (by simpa using hds)
            · rw [hset]; exact holds_putRow encZ w2 b 0 dk _ hH2 (by simp)
            · have := I2.out.keep hlt (by rw [HK.out]; show (!p d[j]!) = true; rw [C.out, hq]; rfl)
              rwa [C.out] at this
        | true =>
          rw [hq] at hcall
          go_wp2_with (go_at_fn g; refine hcall.mono ?_; rintro e w2 ⟨rfl, hI2, hH2⟩)
          go_roundg (d.size - (j + 1))
          case measure => omega
          case rel => exact ⟨i, j + 1, dk, rfl, by go_num, by omega, Nat.le_refl _, (show Aside _ from ⟨hI2, hH2⟩), I2.out.skip (by rw [HK.out]; show (!p d[j]!) = false; rw [C.out, hq]; rfl)⟩
      · obtain rfl : j = d.size := by omega
        have hltz : ¬ (d.size : Int) < (d.size : Int) := by omega
        have hHk := J.out.2
        have hcl : ∀ ty, (Builtin.clear_ #[22] ty #[.slice (some ⟨b, i, none⟩) (d.size - i) (cap - i)]).run Try.prog wr = .ok (.tuple #[]) (wr.setCells b i (List.replicate (d.size - i) (encZ 0))) :=
          fun ty => Lib.run_clear_slice wr _ _ ty _ Try.underlying22 v23 (oneZ.cells 0) (oneZ 0) b i _ _ (by omega) (fun t ht => by have := (hHk (i + t) (by omega)).1; rw [Nat.zero_add] at this; rw [this]; rfl) (fun t ht => by have := (hHk (i + t) (by omega)).2; rw [Nat.zero_add] at this; exact this)
        clear hI hHk
        go_wp2
        go_ret
        have hI := I2.out
        have hs := putRow_self encZ wr b 0 dk J.out.2
        have hset := putRow_setCells encZ wr b 0 (List.replicate (d.size - i) (0 : Int)) dk i (by simp; omega)
        rw [hs, Nat.zero_add, List.map_replicate, hI.done 0] at hset
        refine ⟨by rw [hI.len]; rfl, ?_, ?_⟩
        · rw [hset]; exact HWA.out _ _ J.out.1 (by have := hI.len; simp; omega)
        · have hl := hI.len
          rw [hl, hset]
          exact holds_putRow encZ wr b 0 dk _ J.out.2 (by simp only [List.size_toArray, List.length_append, List.length_replicate]; omega)
end Go.DS

/-
  (*lead.Lead).Waiting: what the evaluator is told of it holds.
-/
namespace Go.DS
open Go Go.Proofs Go.Shelf Go.RowKit Go.Lib Go.Sort
set_option linter.unusedVariables false
set_option linter.unusedSimpArgs false
theorem ext_ok0 [M : Mono] : ExtS Try.prog cfg0 := fun k F hF => by cases hF
theorem vnums_flat : ∀ l : List Int, (vnums l).flatten = l.map num
  | [] => rfl
  | x :: l => by
    have ih := vnums_flat l
    unfold vnums at *
    rw [List.map_cons, List.flatten_cons, List.map_cons, ih]
    rfl
/-- slices.Clone of whole numbers, told of worlds. -/
theorem cloneZ_calls {g : Gh} {h : DHeap} {w : World} (hW : WInv g h w) {ow : Bool} {l : List Int} (hlen : l.length ≤ 1048576) {u : Value} (hu : RelV g (.list ow 1 (vnums l)) u) :
    Calls Try.prog 31 #[u] w fun e w' => ∃ v xs t, e = .returned v ∧ Below w.heap.size w w' ∧ w'.ownsRow w.heap.size t 1 v l.length xs ∧ RelL g (vnums l).flatten xs := by
  obtain ⟨i0, hi, hz0, hz1, hz2⟩ := infoC (P := Try.prog) (t := 3) (z := .int .i64 0) (s := 1) (b := 8) (by kernel_rfl)
  have L := cllaysI
  have hfl : (vnums l).flatten.length = l.length := by rw [vnums_flat, List.length_map]
  have hvl : (vnums l).length = l.length := by simp [vnums]
  generalize hvs : vnums l = vl at *
  cases hu with
  | list h1 h2 h3 h4 h5 =>
    rename_i cap b off vs
    refine (AnyE.slices_Clone L i0 (.int .i64 0) 1 8 hi hz0 hz1 hz2 rfl (by decide) Try.sizeOf3 b off vl.length cap vs w (by rw [← h3, hfl, hvl, Nat.mul_one]) (by simp only [maxLen]; omega) (by omega) (fun j u hj => hW.pc _ _ _ (h5 j u hj)) (fun u hu => by
      obtain ⟨j, hj, rfl⟩ := List.getElem_of_mem hu
      exact g.one _ _ _ (h5 j _ (List.getElem?_eq_getElem hj)))).mono ?_
    rintro e w' ⟨v', rfl, hr, _, hb⟩
    rw [hvl] at hr
    exact ⟨v', vs, _, rfl, hb, hr, ⟨h3, h4⟩⟩
  | empty =>
    rename_i a cap
    have hl0 : l.length = 0 := by rw [← hvl]; rfl
    cases a with
    | none =>
      refine (AnyE.slices_Clone_nil L 0 cap w).mono ?_
      rintro e w' ⟨rfl, rfl⟩
      exact ⟨_, [], 3, rfl, .refl _ _, ⟨by simp [hl0], .inl ⟨rfl, hl0⟩⟩, .nil _⟩
    | some ad =>
      refine (cloneE0 L i0 (.int .i64 0) 1 8 hi hz0 hz1 hz2 rfl (by decide) Try.sizeOf3 ad cap w).mono ?_
      rintro e w' ⟨v', rfl, hr, hb⟩
      rw [hl0]
      exact ⟨v', [], _, rfl, hb, hr, .nil _⟩
/-- What holds while the row at b is written. -/
structure RowI (g : Gh) (h : DHeap) (w : World) (d b : Nat) (et : TypeId) (n : Nat) (W : World) : Prop where
  ex : ∃ g', Ext d g g' w W ∧ WInv g' h W ∧ g'.kind b = .foreign ∧ (∀ o, g'.pc b o = none)
  row : ∃ cur, W.heap[b]? = some (.cells cur et (0, 0)) ∧ cur.size = n
theorem RowI.lt {g : Gh} {h : DHeap} {w : World} {d b : Nat} {et : TypeId} {n : Nat} {W : World} (H : RowI g h w d b et n W) : b < W.heap.size := by
  obtain ⟨cur, h1, _⟩ := H.row
  exact (Array.getElem?_eq_some_iff.1 h1).1
theorem RowI.put {g : Gh} {h : DHeap} {w : World} {d b : Nat} {et : TypeId} {n : Nat} (hb : w.heap.size ≤ b) {W : World} (H : RowI g h w d b et n W) (dk : Array Int) : RowI g h w d b et n (putRow encZ W b 0 dk) := by
  obtain ⟨g', E, hW, hk, hp⟩ := H.ex
  obtain ⟨cur, hc1, hc2⟩ := H.row
  have hh : ∀ k, k ≠ b → (putRow encZ W b 0 dk).heap[k]? = W.heap[k]? := fun k hk => by
    simp only [putRow, mapBlock, Array.getElem?_modify, if_neg (Ne.symm hk)]
  have ht : Touch b g' g' W (putRow encZ W b 0 dk) :=
    ⟨fun k hk _ => hh k hk, fun o v h => h, fun k hk => rfl, fun o v h => (by rw [hp o] at h; cases h), fun k hk => rfl, Nat.le_refl _, fun i hi => rfl, fun i hi => rfl, (by simp [putRow, mapBlock]), rfl, rfl, rfl, fun _ => Nat.le_refl _⟩
  refine ⟨⟨g', ⟨E.le, fun k hk1 hk2 => ?_, E.kind, E.pc, Nat.le_trans E.size ht.size, E.os, E.tape, E.output, E.drawn⟩, ht.winv rfl (.inr ⟨fun i e => (by rw [hk] at e; cases e), fun i k e => (by rw [hk] at e; cases e)⟩) hW, hk, hp⟩, ⟨Sort.putCells encZ 0 dk cur, ?_, ?_⟩⟩
  · rw [hh k (by omega)]
    exact E.heap k hk1 hk2
  · simp [putRow, mapBlock, Array.getElem?_modify, hc1, onCells]
  · rw [← hc2]; simp [Sort.putCells]
/-- Asking a function of the program that only looks. -/
theorem RowI.ask {g : Gh} {h : DHeap} {w : World} {d b : Nat} {et : TypeId} {n : Nat} {W : World} (H : RowI g h w d b et n W) {k : FuncId} {i : Nat} (hi : i < g.n) {x : Int} {o : Bool} (hl : lim Try.prog cfg0 k [.ptr i 0, .sc (.int .i64 x)] h = some (.sc (.bool o), h))
    {dk : Array Int} (hH : Holds encZ W b 0 dk) :
    Calls Try.prog k #[.pointer (some ⟨g.η i, 0, none⟩), encZ x] W fun e w' => e = .returned (.bool o) ∧ RowI g h w d b et n w' ∧ Holds encZ w' b 0 dk := by
  have hlt := H.lt
  obtain ⟨g', E, hW, hk, hp⟩ := H.ex
  have hptr : RelV g' (.ptr i 0) (.pointer (some ⟨g.η i, 0, none⟩)) := by
    have := RelV.ptr (g := g') (i := i) (off := 0) (Nat.lt_of_lt_of_le hi E.le.n)
    rwa [E.le.η i hi] at this
  refine (lim_sound ext_ok0 _ _ _ _ _ hl d g' W #[.pointer (some ⟨g.η i, 0, none⟩), encZ x] hW (.cons hptr (.cons (.sc _) (.nil _)))).mono ?_
  rintro e w' ⟨g2, v, s, rfl, E2, W2, R, _⟩
  obtain rfl := sc_inv R
  have hf : Keep d (g'.kind b) := by rw [hk]; trivial
  have hb := E2.heap b hlt hf
  refine ⟨rfl, ⟨⟨g2, E.trans E2, W2, (E2.kind b hlt hf).trans hk, fun o => by rw [E2.pc b hlt hf]; exact hp o⟩, ?_⟩, ?_⟩
  · rw [hb]; exact H.row
  intro j hj
  obtain ⟨h1, h2⟩ := hH j hj
  refine ⟨?_, ?_⟩
  · rw [← h1]; simp only [World.cell?, hb]
  · rw [← h2]; simp only [World.frozen?, hb]
/-- The row is told as a list of the call's own. -/
theorem RowI.done {g : Gh} {h : DHeap} {w : World} {d b : Nat} {et : TypeId} {n : Nat} {W : World} (hb : w.heap.size ≤ b) (H : RowI g h w d b et n W) {l m : List Int} (hH : Holds encZ W b 0 (l ++ m).toArray) (hl : l.length ≤ n) :
    ∃ g' s, Ext d g g' w W ∧ WInv g' h W ∧ RelV g' (.list true 1 (vnums l)) (.slice (some ⟨b, 0, none⟩) l.length n) ∧ OwnAt g' W (.ownSlot d s) (.list true 1 (vnums l)) (.slice (some ⟨b, 0, none⟩) l.length n) := by
  have hlt := H.lt
  obtain ⟨g', E, hW, hk, hp⟩ := H.ex
  obtain ⟨cur, hc1, hc2⟩ := H.row
  have h1 : ∀ u ∈ l.map encZ, u.oneCell' = true := fun u hu => by
    obtain ⟨x, _, rfl⟩ := List.mem_map.1 hu
    rfl
  have hpc : ∀ o v, (g'.prot b (l.map encZ) (.ownSlot d 0) h1).pc b o = some v → W.cell? ⟨b, o, none⟩ = some v := fun o v hv => by
    simp only [Gh.prot, if_true, List.getElem?_map] at hv
    cases hx : l[o]? with
    | none => rw [hx] at hv; cases hv
    | some x =>
      rw [hx] at hv
      cases hv
      have ho : o < l.length := (List.getElem?_eq_some_iff.1 hx).1
      have := (hH o (by simp; omega)).1
      rw [Nat.zero_add] at this
      rw [this]
      have e1 : (l ++ m).toArray[o]! = x := by
        rw [getElem!_pos (l ++ m).toArray o (by simp; omega)]
        have : (l ++ m)[o]? = some x := by rw [List.getElem?_append_left ho]; exact hx
        have := (List.getElem?_eq_some_iff.1 this).2
        simpa using this
      rw [e1]
  have ht : Touch b g' (g'.prot b (l.map encZ) (.ownSlot d 0) h1) W W :=
    ⟨fun k hk _ => rfl, fun o v h => (by rw [hp o] at h; cases h), fun k hk => (by funext o; simp only [Gh.prot, if_neg hk]), hpc, fun k hk => (by simp only [Gh.prot, if_neg hk]), Nat.le_refl _, fun i hi => rfl, fun i hi => rfl, Nat.le_refl _, rfl, rfl, rfl, fun _ => Nat.le_refl _⟩
  have hne : ∀ k, k < w.heap.size → k ≠ b := fun k hk => by omega
  refine ⟨g'.prot b (l.map encZ) (.ownSlot d 0) h1, 0, ⟨E.le.trans ht.le, E.heap, fun k hk1 hk2 => ?_, fun k hk1 hk2 => ?_, E.size, E.os, E.tape, E.output, E.drawn⟩, ht.winv rfl (.inr ⟨fun i e => (by rw [hk] at e; cases e), fun i k e => (by rw [hk] at e; cases e)⟩) hW, ?_, ?_⟩
  · rw [ht.kind k (hne k hk1)]; exact E.kind k hk1 hk2
  · rw [ht.pcx k (hne k hk1)]; exact E.pc k hk1 hk2
  · have := RelV.list (g := g'.prot b (l.map encZ) (.ownSlot d 0) h1) (own := true) (es := 1) (l := vnums l) (cap := n) (b := b) (off := 0) (vs := l.map encZ) (by rw [vnums_len]; exact hl) (fun r hr => by
      obtain ⟨x, _, rfl⟩ := List.mem_map.1 hr
      rfl) (by rw [vnums_flat, List.length_map, List.length_map]) (fun k e v he hv => by
      rw [vnums_flat, List.getElem?_map] at he
      rw [List.getElem?_map] at hv
      cases hx : l[k]? with
      | none => rw [hx] at he; cases he
      | some x =>
        rw [hx] at he hv
        cases he
        cases hv
        exact .sc _) (fun k v hv => by simp only [Gh.prot, if_true, Nat.zero_add]; exact hv)
    rwa [vnums_len] at this
  · refine .mk_list fun hlt => ⟨b, 0, cur, et, rfl, ?_, hc1, ?_, ?_⟩
    · simp [Gh.prot]
    · omega
    · intro o ho
      simp only [Gh.prot, if_true]
      exact List.getElem?_eq_none (by rw [vnums_len] at ho; rw [List.length_map]; omega)
end Go.DS

/-
  (*lead.Lead).Waiting: what the evaluator is told of it holds.
-/
namespace Go.DS
open Go Go.Proofs Go.Shelf Go.RowKit Go.Lib Go.Sort
set_option linter.unusedVariables false
set_option linter.unusedSimpArgs false
set_option maxRecDepth 1000000 in
set_option maxHeartbeats 2000000 in
theorem idxNil_calls (fv : Value) (w : World) : Calls Try.prog 47 #[.slice none 0 0, fv] w fun e w' => e = .returned (.int .i64 (-1)) ∧ w' = w := by
  go_enter Try.func47, Try.ntmps47
  go_wp2
  go_loopg [5, 8] 0 (fun _ _ s8 wr => s8 = .int .i64 0 ∧ wr = w)
  case atStart => exact ⟨rfl, rfl⟩
  case round =>
    obtain ⟨rfl, rfl⟩ := hrel
    go_wp2
    go_ret
    exact ⟨rfl, rfl⟩
set_option maxRecDepth 1000000 in
set_option maxHeartbeats 2000000 in
theorem delNil_calls (fv : Value) (w : World) : Calls Try.prog 30 #[.slice none 0 0, fv] w fun e w' => e = .returned (.slice none 0 0) ∧ w' = w := by
  have hI := idxNil_calls fv w
  go_enter Try.func30, Try.ntmps30
  go_wp2_with (go_at_call 47; refine hI.mono ?_; rintro e w' ⟨rfl, rfl⟩)
  go_ret
  exact ⟨rfl, rfl⟩
/-- What is known between the clone and the deleting. -/
def WPre (g : Gh) (h : DHeap) (w : World) (d : Nat) (l : List Int) (v : Value) (W : World) : Prop :=
  (v = .slice none 0 0 ∧ l = [] ∧ ∃ g', Ext d g g' w W ∧ WInv g' h W) ∨
  ∃ b et cap, v = .slice (some ⟨b, 0, none⟩) l.length cap ∧ l.length ≤ cap ∧ w.heap.size ≤ b ∧ RowI g h w d b et cap W ∧ Holds encZ W b 0 l.toArray
def WPost (g : Gh) (h : DHeap) (w : World) (d : Nat) (l : List Int) (v : Value) (W : World) : Prop :=
  ∃ g' s, Ext d g g' w W ∧ WInv g' h W ∧ RelV g' (.list true 1 (vnums l)) v ∧ OwnAt g' W (.ownSlot d s) (.list true 1 (vnums l)) v
theorem wpre_of {g g1 : Gh} {h : DHeap} {w w1 w2 : World} {d : Nat} {l : List Int} {v : Value} {xs : List Value} {t : TypeId} (E1 : Ext d g g1 w w1) (W1 : WInv g1 h w1) (hb : Below w1.heap.size w1 w2) (hr : w2.ownsRow w1.heap.size t 1 v l.length xs) (hrel : RelL g1 (vnums l).flatten xs) : WPre g h w d l v w2 := by
  obtain ⟨hxl, ⟨rfl, hn⟩ | ⟨gb, cap, cur, rfl, hge, hc, hnc, _, hcs, htk⟩⟩ := hr
  · have ht := below_touch hb (fun hm => nomatch hm) W1
    exact .inl ⟨rfl, List.eq_nil_of_length_eq_zero hn, g1, E1.trans (ht.ext (.inl hb.size)), ht.winv rfl (.inl hb.size) W1⟩
  · have h1 : ∀ u ∈ ([] : List Value), u.oneCell' = true := fun u hu => by cases hu
    have ht := own_touch W1 hb hge hc (xs := []) (fun k v hv => by simp at hv) .foreign h1
    refine .inr ⟨gb, t, cap, rfl, hnc, Nat.le_trans E1.size hge, ⟨⟨g1.prot gb [] .foreign h1, E1.trans (ht.ext (.inl hge)), ht.winv rfl (.inl hge) W1, by simp [Gh.prot], fun o => by simp [Gh.prot]⟩, cur, hc, by omega⟩, ?_⟩
    have hxs : xs = l.map encZ := by
      rw [vnums_flat] at hrel
      apply List.ext_getElem?
      intro k
      by_cases hk : k < xs.length
      · have hk2 : k < (l.map num).length := by have := hrel.len; omega
        have := hrel.at_ k _ _ (List.getElem?_eq_getElem hk2) (List.getElem?_eq_getElem hk)
        rw [List.getElem_map] at this
        have hk3 : k < l.length := by simpa using hk2
        rw [List.getElem?_eq_getElem hk, List.getElem?_map, List.getElem?_eq_getElem hk3, sc_inv this]
        rfl
      · have := hrel.len
        rw [List.getElem?_eq_none (by omega), List.getElem?_eq_none (by simp at this ⊢; omega)]
    intro j hj
    have hj' : j < l.length := by simpa using hj
    refine ⟨?_, by simp [World.frozen?, hc]⟩
    have h2 := congrArg (·[j]?) htk
    simp only [Nat.mul_one] at h2
    rw [List.getElem?_take_of_lt (by omega), Array.getElem?_toList, hxs, List.getElem?_map, List.getElem?_eq_getElem hj'] at h2
    simp only [Option.map_some] at h2
    simp only [World.cell?, hc, Nat.zero_add, h2]
    rw [getElem!_pos l.toArray j hj]
    simp
set_option maxRecDepth 1000000 in
set_option maxHeartbeats 4000000 in
theorem waitF_ok {args : List DV} {h : DHeap} {r : DV} {h' : DHeap} (hx : waitF Try.prog cfg0 29 32 args h = some (r, h')) : CallOK Try.prog 11 args h r h' := by
  unfold waitF at hx
  split at hx
  rotate_left
  · cases hx
  rename_i h0 i
  split at hx
  rotate_left
  · cases hx
  rename_i c0 ow nodes cs hi
  split at hx
  rotate_left
  · cases hx
  rename_i H
  cases hx
  obtain ⟨q1, q2, q3, q4⟩ := H.choose_spec
  generalize H.choose = q at *
  obtain ⟨o, p⟩ := q
  dsimp only at q1 q2 ⊢
  generalize nodes.map rowZ = l at *
  subst q4
  have q3 : l.length ≤ 1048576 := by rw [vnums_len] at q3; exact q3
  intro d g w vs hW hR
  obtain ⟨u, rfl, hu⟩ := rel1 hR
  obtain ⟨hin, rfl⟩ := ptr_inv hu
  have HOV : Calls Try.prog 29 #[.pointer (some ⟨g.η i, 0, none⟩)] w fun e w' => e = .returned (.bool o) ∧ ∃ g1, Ext d g g1 w w' ∧ WInv g1 h w' := by
    refine (lim_sound ext_ok0 _ _ _ _ _ q1 d g w _ hW hR).mono ?_
    rintro e w' ⟨g1, v, s, rfl, E1, W1, R, _⟩
    obtain rfl := sc_inv R
    exact ⟨rfl, g1, E1, W1⟩
  have HCL : Aside (∀ g1 w1, Ext d g g1 w w1 → WInv g1 h w1 → ∃ u, w1.cell? ⟨g.η i, 1, none⟩ = some u ∧ Calls Try.prog 31 #[u] w1 fun e w2 => ∃ v, e = .returned v ∧ WPre g h w d l v w2) := fun g1 w1 E1 W1 => by
    obtain ⟨vi, eti, a1, a2, a3, a4, a5⟩ := W1.obj i _ hi
    obtain ⟨v1, v2, e4, hv1, a6⟩ := RelL.cons_inv a4
    obtain ⟨v3, v4, e5, hv3, a7⟩ := RelL.cons_inv a6
    rw [E1.le.η i hin] at a1
    have hc : w1.cell? ⟨g.η i, 1, none⟩ = some v3 := by
      have : vi[1]? = some v3 := by rw [← Array.getElem?_toList, e4, e5]; rfl
      simp [World.cell?, a1, this]
    refine ⟨v3, hc, (cloneZ_calls W1 q3 hv3).mono ?_⟩
    rintro e w2 ⟨v, xs, t, rfl, hb, hr, hrel⟩
    exact ⟨v, rfl, wpre_of E1 W1 hb hr hrel⟩
  have HDEL : Aside (∀ v w2, WPre g h w d l v w2 → Calls Try.prog 30 #[v, .func (.func 32) #[.pointer (some ⟨g.η i, 0, none⟩)] #[]] w2 fun e w3 => ∃ r, e = .returned r ∧ WPost g h w d (l.filter fun x => !p x) r w3) := fun v w2 hp => by
    rcases hp with ⟨rfl, rfl, g', E, W'⟩ | ⟨b, et, cap, rfl, hcap, hb, RI, HH⟩
    · refine (delNil_calls _ w2).mono ?_
      rintro e w3 ⟨rfl, rfl⟩
      exact ⟨_, rfl, g', 0, E, W', .empty, .mk_list fun h => by simp at h⟩
    · have hd := delF_calls (I := RowI g h w d b et cap) (b := b) (g := 32) (rp := .pointer (some ⟨g.η i, 0, none⟩)) (p := p) (cap := cap) l.toArray (enters_of Try.func32 (by kernel_rfl) rfl)
        (fun W dk u RI HH _ => RI.ask hin (q2 u) HH) (fun W dk RI _ => RI.put hb dk) w2 RI HH (by simp; omega) (by simpa using hcap)
      refine Calls.mono (by simpa using hd) ?_
      rintro e w3 ⟨rfl, RI3, HH3⟩
      exact ⟨_, rfl, RI3.done hb HH3 (Nat.le_trans (List.length_filter_le ..) hcap)⟩
  clear q1 q2 hW hR hu hi
  cases o with
  | true =>
    go_enter Try.func11, Try.ntmps11
    go_wp2_with (go_at_call 29; refine HOV.mono ?_; rintro e w1 ⟨rfl, g1, E1, W1⟩)
    go_ret
    exact ⟨g1, _, rfl, E1, W1, .empty, 0, .mk_list fun h => by simp at h⟩
  | false =>
    go_enter Try.func11, Try.ntmps11
    go_wp2_with (first
      | (go_at_call 29; refine HOV.mono ?_; rintro e w1 ⟨rfl, g1, E1, W1⟩; obtain ⟨u, hu, hcl⟩ := HCL.out g1 w1 E1 W1)
      | (go_at_call 31; refine hcl.mono ?_; rintro e w2 ⟨v, rfl, hpre⟩; have hdel := HDEL.out v w2 hpre)
      | (go_at_call 30; refine hdel.mono ?_; rintro e w3 ⟨r, rfl, hpost⟩))
    go_ret
    obtain ⟨g', s, E, W', R, OW⟩ := hpost
    exact ⟨g', r, rfl, E, W', R, s, OW⟩
theorem lookF_ok {k : FuncId} {args : List DV} {h : DHeap} {r : DV} {h' : DHeap} (hx : lookF Try.prog cfg0 k args h = some (r, h')) : CallOK Try.prog k args h r h' := lim_sound ext_ok0 _ _ _ _ _ (lookF_heap hx).2
end Go.DS

/-
  ballot.Quorum: what the evaluator is told of it holds.
-/
namespace Go.DS
open Go Go.Proofs Go.Shelf Go.RowKit
set_option linter.unusedVariables false
set_option linter.unusedSimpArgs false
set_option maxRecDepth 1000000 in
set_option maxHeartbeats 2000000 in
theorem quorum_calls (n : Int) (h0 : 0 ≤ n) (h1 : n ≤ 1099511627776) (w : World) : Calls Try.prog 65 #[.int .i64 n] w fun e w' => e = .returned (.int .i64 (if n < 1 then 0 else n / 2 + 1)) ∧ w' = w := by
  by_cases c1 : n < 1
  · rw [if_pos c1]
    go_enter Try.func65, Try.ntmps65
    go_wp2
    go_ret
    exact ⟨rfl, rfl⟩
  · rw [if_neg c1]
    go_enter Try.func65, Try.ntmps65
    go_wp2
    go_ret
    exact ⟨rfl, rfl⟩
theorem quorumF_ok {args : List DV} {h : DHeap} {r : DV} {h' : DHeap} (hx : quorumF args h = some (r, h')) : CallOK Try.prog 65 args h r h' := by
  unfold quorumF at hx
  split at hx
  rotate_left
  · cases hx
  rename_i h0 n
  split at hx
  rotate_left
  · cases hx
  rename_i hc
  cases hx
  refine callOK_of fun g w vs hW hR => ?_
  obtain ⟨u, rfl, hu⟩ := rel1 hR
  obtain rfl := sc_inv hu
  refine (quorum_calls n hc.1 hc.2 w).mono ?_
  rintro e w' ⟨rfl, rfl⟩
  exact ⟨rfl, Below.refl _ _, fun _ => Nat.le_refl _⟩
end Go.DS

/-
  What the evaluator is told of the library's functions holds.
-/
namespace Go.DS
open Go Go.Proofs Go.Shelf Go.RowKit
set_option linter.unusedVariables false
set_option linter.unusedSimpArgs false
theorem ext_ok : ExtS Try.prog cfg := by
  intro k F hF args h r h' hx
  change extF k = some F at hF
  unfold extF at hF
  split at hF
  · rename_i hk; subst hk; cases hF; exact keysDF_ok hx
  split at hF
  · rename_i hk; subst hk; cases hF; exact equalDF_ok hx
  split at hF
  · rename_i hk; subst hk; cases hF; exact cllaysI_ok hx
  split at hF
  · rename_i hk; subst hk; cases hF; exact cllaysD_ok hx
  split at hF
  · rename_i hk; subst hk; cases hF; exact quorumF_ok hx
  split at hF
  · rename_i hk; subst hk; cases hF; exact lookF_ok hx
  split at hF
  · rename_i hk; subst hk; cases hF; exact waitF_ok hx
  cases hF
end Go.DS
