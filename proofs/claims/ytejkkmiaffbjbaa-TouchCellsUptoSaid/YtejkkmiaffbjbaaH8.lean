/-
  What Go's library answers.
-/
import Derived.Test.YtejkkmiaffbjbaaK4
import Derived.Lib.Bytealg
import Derived.Lib.Join
import Derived.Test.YtejkkmiaffbjbaaChecked
import Derived.Lib.Strings
import Derived.Lib.Slices
import Derived.Lib.Walk
import Derived.Test.YtejkkmiaffbjbaaProg
import Derived.KernelRfl
import Derived.Shelf.Strings.OnBuilder
import Derived.Below
import Derived.Shelf.Spec.SlicesGrow
import Derived.Test.YtejkkmiaffbjbaaRows
import Derived.WalkKit
import Derived.ProofKit
import Derived.Deep.Strs
import Derived.ChangeArms
import Derived.DataReads
set_option linter.unusedSimpArgs false
set_option linter.unusedVariables false
namespace Go.DS
open Go
def byteOf (n : Int) : UInt8 := n.toNat.toUInt8
def indexF : List DV → DHeap → Option (DV × DHeap)
  | [.sc (.string s), .sc (.int .u8 c)], h => some (.sc (.int .i64 (Lib.indexByte s.data.toList (byteOf c))), h)
  | _, _ => none
def compF : List DV → DHeap → Option (DV × DHeap)
  | [.sc (.string s), .sc (.string u)], h => some (.sc (.int .i64 (Lib.compareBytes s.data.toList u.data.toList)), h)
  | _, _ => none
def strsOf : List (List DV) → Option (List (List UInt8))
  | [] => some []
  | [.sc (.string s)] :: l => match strsOf l with
    | some r => some (s.data.toList :: r)
    | none => none
  | _ => none
def joinF : List DV → DHeap → Option (DV × DHeap)
  | [.list _ 1 l, .sc (.string s)], h => match strsOf l with
    | some xs => if xs.length ≤ 1048576 ∧ (Lib.join xs s.data.toList).length ≤ 1099511627776 then some (.sc (.string (mkB (Lib.join xs s.data.toList))), h) else none
    | none => none
  | _, _ => none
/-- slices.Grow of nil. -/
def growF (es : Nat) : List DV → DHeap → Option (DV × DHeap)
  | [.sc (.slice none 0 0), .sc (.int .i64 n)], h => if 0 ≤ n ∧ n ≤ 1048576 then some (.list true es [], h) else none
  | _, _ => none
/-- A list of texts. -/
def ts (l : List (List UInt8)) : List (List DV) := l.map fun s => [.sc (.string (mkB s))]
@[go_sem] theorem ts_len (l : List (List UInt8)) : (ts l).length = l.length := by simp [ts]
@[go_sem] theorem ts_snoc (l : List (List UInt8)) (x : List UInt8) : ts l ++ [[.sc (.string (mkB x))]] = ts (l ++ [x]) := by simp [ts]
@[go_sem] theorem ts_app (l m : List (List UInt8)) : ts l ++ ts m = ts (l ++ m) := by simp [ts]
@[go_sem] theorem ts_take (l : List (List UInt8)) (k : Nat) : (ts l).take k = ts (l.take k) := by simp [ts, List.map_take]
@[go_sem] theorem ts_drop (l : List (List UInt8)) (k : Nat) : (ts l).drop k = ts (l.drop k) := by simp [ts, List.map_drop]
theorem ts_nil : ts [] = [] := rfl
@[go_sem high] theorem idxP_ts (l : List (List UInt8)) (i : Int) (N : List DV → Prop) : IdxP (ts l) i N = IdxP l i fun x => N [.sc (.string (mkB x))] := idxP_map
theorem strsOf_ts : ∀ l : List (List UInt8), strsOf (ts l) = some l
  | [] => rfl
  | s :: l => by
    have := strsOf_ts l
    simp only [ts] at this
    simp only [ts, List.map_cons, strsOf, this]
    rfl
theorem idxP_last {α : Type} (l : List α) (x : α) (N : α → Prop) : IdxP (l ++ [x]) (l.length : Int) N = N x := by
  rw [idxP_nat]; simp
theorem free_ts : ∀ l : List (List UInt8), heapFree.alls (ts l) = true
  | [] => rfl
  | s :: l => by
    have := free_ts l
    simp only [ts] at this
    simp only [ts, List.map_cons, heapFree.alls, heapFree.all, heapFree, this, Bool.and_self]
end Go.DS

/-
  Paths, as plain lists of bytes.
-/
namespace Go.DS
open Go
abbrev Str := List UInt8
def okc (c : UInt8) : Bool := (97 ≤ c.toNat && c.toNat ≤ 122) || (48 ≤ c.toNat && c.toNat ≤ 57) || c.toNat == 45 || c.toNat == 95
def nameOK (l : Str) : Bool := l.all okc && decide (1 ≤ l.length ∧ l.length ≤ 16)
theorem okc_iff (c : UInt8) : okc c = true ↔ (97 ≤ c.toNat ∧ c.toNat ≤ 122) ∨ (48 ≤ c.toNat ∧ c.toNat ≤ 57) ∨ c.toNat = 45 ∨ c.toNat = 95 := by
  simp only [okc, Bool.or_eq_true, Bool.and_eq_true, decide_eq_true_eq, beq_iff_eq, or_assoc]
theorem okc_not (c : UInt8) : okc c = false ↔ ¬ ((97 ≤ c.toNat ∧ c.toNat ≤ 122) ∨ (48 ≤ c.toNat ∧ c.toNat ≤ 57) ∨ c.toNat = 45 ∨ c.toNat = 95) := by
  rw [← okc_iff]; simp
theorem take_all {p : UInt8 → Bool} {l : List UInt8} {k : Nat} (hk : k < l.length) (ha : (l.take k).all p = true) (hp : p l[k] = true) : (l.take (k + 1)).all p = true := by
  rw [List.take_succ_eq_append_getElem hk, List.all_append, ha]
  simp [hp]
theorem not_all {p : UInt8 → Bool} {l : List UInt8} {k : Nat} (hk : k < l.length) (hp : p l[k] = false) : l.all p = false := by
  rw [← Bool.not_eq_true, List.all_eq_true]
  intro hall
  have := hall _ (List.getElem_mem hk)
  rw [hp] at this
  cases this

/-- Up to the next slash; behind it. -/
def seg : Str → Str := List.takeWhile (· ≠ 47)
def aft : Str → Str := List.dropWhile (· ≠ 47)
theorem seg_aft (r : Str) : seg r ++ aft r = r := List.takeWhile_append_dropWhile
theorem aft_le (r : Str) : (aft r).length ≤ r.length := by
  have := congrArg List.length (seg_aft r)
  simp at this; omega
theorem index_lt (r : Str) : Lib.indexByte r 47 = if aft r = [] then -1 else ((seg r).length : Int) := by
  induction r with
  | nil => rfl
  | cons c r ih =>
    unfold Lib.indexByte
    by_cases hc : c = 47
    · subst hc; simp [seg, aft]
    · have h1 : seg (c :: r) = c :: seg r := by simp [seg, hc]
      have h2 : aft (c :: r) = aft r := by simp [aft, hc]
      rw [h1, h2, ih]
      have hb : (c == 47) = false := by simpa using hc
      simp only [hb, Bool.false_eq_true, if_false, List.length_cons]
      split
      · simp
      · have : ((seg r).length : Int) ≠ -1 := by omega
        simp [this]

/-- What split's loop comes to. -/
def runP (p : Str) (l : List Str) : Option (List Str) := match p with
  | [] => if l = [] then none else some l
  | c :: r => if c ≠ 47 then none else if 8 ≤ l.length ∨ nameOK (seg r) = false then none else runP (aft r) (l ++ [seg r])
termination_by p.length
decreasing_by have := aft_le r; simp; omega
/-- A path's names. -/
def parse (p : Str) : Option (List Str) := if p = [47] then some [] else runP p []
end Go.DS

/-
  Contracts of library functions, laid by the kit's contract.sh for this program (its text), in one file.
-/
namespace Go.Proofs
set_option maxHeartbeats 1000000 in
set_option maxRecDepth 100000 in
/-- internal/stringslite.IndexByte (what strings.IndexByte calls): IT RETURNS 'Lib.indexByte s c'; the world is as it was. -/
theorem Try.stringslite_IndexByte (s : ByteArray) (c : Int) (w : World) :
    Calls Try.prog 68 #[.string s, .int .u8 c] w fun e w' => e = .returned (.int .i64 (Lib.indexByte s.data.toList c.toNat.toUInt8)) ∧ w' = w := by
  go_enter Try.func68, Try.ntmps68
  go_wp2
  rw [run_callFunc_extern Try.func75 (by kernel_rfl) (by kernel_rfl) (by kernel_rfl) (e := Extern.BytealgIndexByte.indexByte) (by kernel_rfl), Lib.run_indexByteString]
  simp only [Result.andThen]
  rw [Oper.upon_value]
  go_wp2
  go_ret
  exact ⟨rfl, rfl⟩

set_option maxHeartbeats 1000000 in
/-- strings.IndexByte: "IndexByte returns the index of the first instance of c in s, or -1 if c is not present in s.": IT RETURNS 'Lib.indexByte s c'; the world is as it was. -/
theorem Try.strings_IndexByte (s : ByteArray) (c : Int) (w : World) :
    Calls Try.prog 57 #[.string s, .int .u8 c] w fun e w' => e = .returned (.int .i64 (Lib.indexByte s.data.toList c.toNat.toUInt8)) ∧ w' = w := by
  go_enter Try.func57, Try.ntmps57
  go_wp2_with (go_at_call 68; refine (Try.stringslite_IndexByte _ _ _).mono ?_; rintro e w' ⟨rfl, rfl⟩)
  go_ret
  exact ⟨rfl, rfl⟩

set_option maxHeartbeats 1000000 in
set_option maxRecDepth 100000 in
/-- internal/bytealg.CompareString (what strings.Compare calls): IT RETURNS 'Lib.compareBytes a b'; the world is as it was. -/
theorem Try.bytealg_CompareString (a b : ByteArray) (w : World) :
    Calls Try.prog 61 #[.string a, .string b] w fun e w' => e = .returned (.int .i64 (Lib.compareBytes a.data.toList b.data.toList)) ∧ w' = w := by
  go_enter Try.func61, Try.ntmps61
  go_wp2
  rw [run_callFunc_extern Try.func71 (by kernel_rfl) (by kernel_rfl) (by kernel_rfl) (e := Extern.BytealgCompare.compare) (by kernel_rfl), Lib.run_compareString]
  simp only [Result.andThen]
  rw [Oper.upon_value]
  go_wp2
  go_ret
  exact ⟨rfl, rfl⟩

set_option maxHeartbeats 1000000 in
/-- strings.Compare: "Compare returns an integer comparing two strings lexicographically. The result will be 0 if a == b, -1 if a < b, and +1 if a > b.": IT RETURNS 'Lib.compareBytes a b'; the world is as it was. -/
theorem Try.strings_Compare (a b : ByteArray) (w : World) :
    Calls Try.prog 48 #[.string a, .string b] w fun e w' => e = .returned (.int .i64 (Lib.compareBytes a.data.toList b.data.toList)) ∧ w' = w := by
  go_enter Try.func48, Try.ntmps48
  go_wp2_with (go_at_call 61; refine (Try.bytealg_CompareString _ _ _).mono ?_; rintro e w' ⟨rfl, rfl⟩)
  go_ret
  exact ⟨rfl, rfl⟩
end Go.Proofs

/-
  The settings of the evaluator for this program.
-/
namespace Go.DS
open Go Go.Proofs
set_option maxRecDepth 100000
set_option linter.unusedVariables false
def xferT : List (Nat × List Nat) := [(3, [17]), (4, [14, 15, 18, 20, 23]), (5, [43, 71, 74]), (6, [41]), (7, [30, 31, 35, 39, 42]), (8, [11, 33]), (9, [4, 16, 19]), (10, [4, 34]), (11, [10, 23]), (12, [17, 22, 25]), (13, [5, 8]), (14, [5, 8, 10]), (15, [13, 17]), (17, [5, 8, 10]), (19, [5, 8]), (22, [11, 18, 20]), (23, [14]), (24, [14]), (25, [9, 12, 14, 17]), (27, [9, 12, 14, 17]), (28, [4]), (30, [30]), (33, [2, 3, 10]), (38, [9, 12, 14, 17]), (43, [12, 15, 25, 47]), (44, [16, 29, 33]), (45, [19, 44, 68]), (46, [15]), (47, [15, 17, 25, 32]), (50, [9]), (53, [7, 42]), (54, [19]), (56, [9]), (59, [12]), (60, [2]), (62, [10, 17]), (63, [13, 14, 21]), (64, [14, 30, 31, 35]), (67, [10]), (70, [4, 27]), (72, [26]), (73, [10, 17])]
def escT : List (Nat × List Nat) := [(45, [8])]
def keepT : List (Nat × List (Nat × List Nat)) := [
(2, [(0, [])]),
(3, [(0, [0, 1]), (1, [0, 1, 5]), (2, [0, 1, 5, 8]), (3, [4]), (4, [0, 1, 5, 16]), (5, [4]), (6, [4])]),
(4, [(0, [0]), (1, [0, 3]), (2, [0, 3, 10]), (3, [2]), (4, [0, 3, 13]), (5, [2]), (6, [0, 3, 4, 5]), (7, [0, 3, 4, 5, 6, 7]), (8, [2])]),
(5, [(0, [0, 1, 2]), (1, [0, 1, 2, 7]), (2, [0, 1, 2, 7, 14]), (3, [6]), (4, [0, 1, 2, 7, 42]), (5, [6]), (6, [0, 1, 2, 7, 45]), (7, [0, 1, 2, 7, 8]), (8, [0, 1, 2, 7, 8, 64]), (9, [6]), (10, [0, 1, 2, 7, 9]), (11, [0, 1, 2, 7, 10, 11]), (12, [0, 1, 2, 7, 82]), (13, [6]), (14, [0, 1, 7, 111]), (15, [6]), (16, [6])]),
(6, [(0, [0, 1, 2]), (1, [0, 1, 2, 7]), (2, [0, 1, 2, 7, 12]), (3, [6]), (4, [0, 1, 2, 7, 40]), (5, [6]), (6, [0, 1, 2, 7, 8]), (7, [0, 1, 2, 7, 8, 9]), (8, [6])]),
(7, [(0, [0, 1]), (1, [0, 1, 5]), (2, [0, 1, 5, 11]), (3, [4]), (4, [0, 1, 5, 29]), (5, [4]), (6, [0, 1, 5, 6]), (7, [0, 1, 5, 6]), (8, [0, 1, 5, 6]), (9, [0, 1, 5, 6, 7, 8]), (10, [0, 1, 5, 7, 8, 46]), (11, [4]), (12, [4])]),
(8, [(0, [0, 1, 2]), (1, [0, 1, 2, 7]), (2, [0, 1, 2, 7, 14]), (3, [6]), (4, [0, 1, 2, 7, 32]), (5, [6]), (6, [0, 1, 2, 7, 8]), (7, [0, 1, 2, 7, 8, 9]), (8, [0, 1, 2, 7, 8, 9, 10]), (9, [0, 1, 2, 7, 8, 9, 10, 39]), (10, [0, 1, 2, 7, 8, 9, 10]), (11, [0, 1, 2, 7, 8, 9, 10, 55]), (12, [6]), (13, [0, 1, 2, 7, 8, 9, 10]), (14, [0, 7, 8, 9, 11]), (15, [6]), (100009, [0, 1, 2, 7, 8, 9, 10])]),
(9, [(0, [2, 3]), (1, [2, 3, 5]), (2, [2, 3, 5, 10]), (3, [2, 3, 4]), (4, [2, 3, 5, 14]), (5, [2, 3, 4]), (6, [2, 3, 5, 6, 7]), (7, [2, 3, 4])]),
(10, [(0, [2, 3, 7]), (1, [2, 3, 5, 7]), (2, [2, 3, 5, 7, 10]), (3, [2, 3, 4, 7]), (4, [2, 3, 5, 7, 14]), (5, [2, 3, 4, 7]), (6, [2, 3, 5, 6, 7]), (7, [2, 3, 5, 6, 7]), (8, [2, 3, 5, 6, 7]), (9, [2, 3, 4, 7])]),
(11, [(0, [2, 3]), (1, [2, 3, 5]), (2, [2, 3, 5, 18]), (3, [2, 3, 4]), (4, [2, 3, 5, 22]), (5, [2, 3, 4]), (6, [2, 3, 5, 6]), (7, [2, 3, 5, 6, 7]), (8, [2, 3, 5, 6, 7, 8]), (9, [2, 3, 5, 6, 7, 8, 9]), (10, [2, 3, 5, 6, 7, 8, 9, 10]), (11, [2, 3, 5, 6, 7, 8, 9, 10, 11]), (12, [2, 3, 5, 6, 7, 8, 9, 10, 11, 35]), (13, [2, 3, 5, 6, 7, 8, 9, 10, 11]), (14, [2, 3, 5, 6, 7, 8, 9, 10, 11, 12]), (15, [2, 3, 5, 6, 7, 8, 9, 10, 11, 12, 41]), (16, [2, 3, 5, 6, 7, 8, 9, 10, 11, 12]), (17, [2, 3, 5, 6, 7, 8, 9, 10, 11, 12]), (18, [2, 3, 5, 6, 7, 8, 9, 10, 11, 13]), (19, [2, 3, 5, 6, 7, 8, 9, 10, 11, 13, 59]), (20, [2, 3, 5, 6, 7, 8, 9, 10, 11, 13]), (21, [2, 3, 5, 6, 7, 8, 9, 10, 11, 13]), (22, [2, 3, 5, 6, 9, 10, 14]), (23, [2, 3, 5, 6, 9, 10, 14, 77]), (24, [2, 3, 5, 6, 9, 10, 14]), (25, [2, 3, 5, 6, 9, 10, 14, 15]), (26, [2, 3, 5, 6, 9, 10, 14, 15, 83]), (27, [2, 3, 5, 6, 9, 10, 14, 15]), (28, [2, 3, 5, 6, 9, 10, 14, 15]), (29, [2, 3, 4]), (100012, [2, 3, 5, 6, 7, 8, 9, 10, 11]), (100015, [2, 3, 5, 6, 7, 8, 9, 10, 11, 12]), (100019, [2, 3, 5, 6, 7, 8, 9, 10, 11, 13]), (100023, [2, 3, 5, 6, 9, 10, 14]), (100026, [2, 3, 5, 6, 9, 10, 14, 15])]),
(12, [(0, [1]), (1, [1, 3]), (2, [1, 3, 13]), (3, [1, 2]), (4, [1, 3, 16]), (5, [1, 2]), (6, [1, 3, 4]), (7, [1, 3, 4, 5]), (8, [1, 3, 4, 5, 6]), (9, [1, 3, 4, 5, 6]), (10, [1, 3, 4, 5, 6]), (11, [1, 3, 4, 5, 6, 7]), (12, [1, 3, 4, 5, 6, 7, 31]), (13, [1, 3, 4, 5, 6, 7]), (14, [1, 3, 4, 5, 6, 7, 76]), (15, [1, 2]), (16, [1, 3, 4, 5, 6, 7, 8]), (17, [1, 3, 4, 5, 6, 7, 8, 79]), (18, [1, 3, 4, 5, 6, 7, 8]), (19, [1, 3, 4, 5, 6, 7, 8, 9]), (20, [1, 3, 4, 5, 6, 7, 8, 103]), (21, [1, 2]), (22, [1, 3, 5, 6, 10]), (23, [1, 2]), (100012, [1, 3, 4, 5, 6, 7]), (100017, [1, 3, 4, 5, 6, 7, 8])]),
(13, [(0, []), (1, [1]), (2, [1, 2, 3]), (3, [0])]),
(14, [(0, [0]), (1, [4]), (2, [2])]),
(15, [(0, [0]), (1, [0, 12]), (2, [2]), (3, [0, 3, 4]), (4, [2])]),
(16, [(0, [0, 1]), (1, [0, 1, 10]), (2, [4]), (3, [0, 1, 5]), (4, [0, 1, 5, 14]), (5, [0, 1, 5]), (6, [0, 1, 5, 25]), (7, [4]), (8, [4]), (100004, [0, 1, 5])]),
(17, [(0, [0]), (1, [3]), (2, [2])]),
(18, [(0, [0]), (1, [0, 5]), (2, [2]), (3, [2])]),
(19, [(0, [0]), (1, [3, 4]), (2, [3, 11]), (3, [2]), (4, [2])]),
(20, [(0, [0]), (1, [0, 5]), (2, [2]), (3, [2])]),
(21, [(0, [0]), (1, [3]), (2, [3, 8]), (3, [2]), (4, [2])]),
(22, [(0, [0]), (1, [0, 8]), (2, [2]), (3, [3]), (4, [4]), (5, [2])]),
(23, [(0, [0]), (1, [3]), (2, [3, 8]), (3, [2]), (4, [2])]),
(24, [(0, [0]), (1, [0, 6]), (2, [2]), (3, [3]), (4, [2])]),
(25, [(0, [0, 1]), (1, [1, 5, 6]), (2, [5, 6, 7, 8]), (3, [4])]),
(26, [(0, [0, 1]), (1, [0, 1, 15]), (2, [4]), (3, [1, 5]), (4, [5, 6]), (5, [5, 6, 24]), (6, [4]), (7, [5, 6, 7]), (8, [5, 6, 7, 28]), (9, [5, 6, 7]), (10, [5, 6, 7, 39]), (11, [4]), (12, [4]), (100008, [5, 6, 7])]),
(27, [(0, [0, 1]), (1, [1, 5, 6]), (2, [5, 6, 7, 8]), (3, [4])]),
(28, [(0, [0, 1]), (1, [0, 1, 15]), (2, [4]), (3, [1, 5]), (4, [5, 6]), (5, [5, 6, 7]), (6, [5, 6, 7, 29]), (7, [5, 6, 7]), (8, [5, 6, 7, 40]), (9, [4]), (10, [4]), (100006, [5, 6, 7])]),
(29, [(0, [0]), (1, [0, 4]), (2, [0, 12]), (3, [2, 3]), (4, [2, 3])]),
(30, [(0, [0]), (1, [0, 8]), (2, [2, 3]), (3, [0, 4]), (4, [0, 4, 5]), (5, [0, 4, 5, 12]), (6, [0, 4, 5]), (7, [0, 4, 5, 20]), (8, [2, 3]), (9, [0, 4, 5]), (10, [4, 29]), (11, [4]), (12, [2, 3]), (100005, [0, 4, 5])]),
(31, [(0, [1, 2, 3, 4]), (1, [1, 2, 3, 4]), (2, [1, 2, 3, 4]), (3, [1, 2, 3, 4]), (4, [1, 2, 3, 4]), (5, [1, 2, 3, 4, 5]), (6, [0, 1, 2, 3, 4])]),
(32, [(0, [0]), (1, [0, 3]), (2, [0, 3, 11]), (3, [0, 3]), (4, [0, 3, 29]), (5, [2]), (6, [2]), (100002, [0, 3])]),
(33, [(0, [1, 6, 7, 8]), (1, [1, 4, 6, 7, 8]), (2, [1, 4, 6, 7, 8, 13]), (3, [1, 2, 3, 6, 7, 8]), (4, [1, 4, 5, 6, 7, 8]), (5, [1, 4, 5, 6, 7, 8]), (6, [1, 4, 5, 6, 7, 8]), (7, [1, 4, 5, 6, 7, 8]), (8, [1, 4, 5, 6, 7, 8, 23]), (9, [1, 4, 5, 6, 7, 8, 23, 24]), (10, [1, 5, 6, 7, 8, 27]), (11, [1, 2, 3, 6, 7, 8]), (12, [1, 2, 3, 6, 7, 8]), (13, [1, 4, 5, 6, 7, 8, 23, 39]), (14, [1, 5, 6, 7, 8, 42]), (15, [1, 2, 3, 6, 7, 8]), (16, [1, 4, 6, 7, 8, 23, 51]), (17, [1, 6, 7, 8, 54]), (18, [1, 2, 3, 6, 7, 8]), (19, [1, 4, 6, 7, 8, 23, 59]), (20, [1, 6, 7, 8, 62]), (21, [1, 2, 3, 6, 7, 8]), (22, [1, 6, 7, 8, 23, 68]), (23, [1, 2, 3, 6, 7, 8]), (24, [1, 6, 7, 8, 73]), (25, [1, 2, 3, 6, 7, 8]), (26, [1, 2, 3, 6, 7, 8])]),
(34, [(0, [0, 1]), (1, [0, 1, 10]), (2, [4]), (3, [0, 1, 5]), (4, [0, 1, 5, 14]), (5, [0, 1, 5]), (6, [0, 1, 5, 40]), (7, [4]), (8, [4]), (100004, [0, 1, 5])]),
(35, [(0, [1]), (1, [1, 2])]),
(36, [(0, [1]), (1, [1, 2])]),
(37, [(0, [2, 3, 5, 6]), (1, [2, 3, 5, 6]), (2, [2, 3, 4, 5, 6])]),
(38, [(0, [2, 3]), (1, [2, 3, 5, 6]), (2, [2, 3, 5, 6, 7, 8]), (3, [2, 3, 4])]),
(39, [(0, [2, 3]), (1, [2, 3, 5]), (2, [2, 3, 4]), (3, [2, 3, 14]), (4, [2, 3, 4]), (5, [2, 3, 4])]),
(40, [(0, [2, 3]), (1, [2, 3, 12]), (2, [2, 3, 4]), (3, [2, 3, 4])]),
(41, [(0, [1]), (1, [1, 2])]),
(42, [(0, [1]), (1, [1, 2])]),
(43, [(0, [0]), (1, [0, 9]), (2, [2, 3]), (3, [0, 4]), (4, [0, 4, 11]), (5, [4, 5, 6]), (6, [4, 5, 18]), (7, [2, 3]), (8, [4, 5, 7]), (9, [4, 5, 7, 22]), (10, [4, 5, 7]), (11, [4, 5, 7]), (12, [0, 4]), (13, [0, 4, 46]), (14, [4]), (15, [2, 3]), (100004, [0, 4])]),
(44, [(0, [0]), (1, [0, 3]), (2, [0, 3, 4]), (3, [0, 3, 4, 5]), (4, [0, 3, 4, 5, 9]), (5, [0, 3, 4, 5]), (6, [0, 3, 4, 5, 15]), (7, [0, 3, 5]), (8, [0, 3, 4, 5]), (9, [0, 3, 4, 5]), (10, [3, 4, 28]), (11, [3]), (12, [2]), (100004, [0, 3, 4, 5])]),
(45, [(0, [0, 1, 8]), (1, [0, 1, 8, 12]), (2, [0, 1, 8, 12, 13]), (3, [4, 8]), (4, [0, 1, 8, 15]), (5, [4, 8]), (6, [0, 1, 5, 8]), (7, [0, 1, 5, 8, 22]), (8, [0, 1, 5, 8, 29]), (9, [0, 1, 5, 8]), (10, [0, 1, 5, 8]), (11, [0, 1, 5, 8, 39, 40, 41]), (12, [0, 1, 5, 8, 39, 40, 41, 42]), (13, [0, 1, 5, 7, 8, 39, 40, 41]), (14, [0, 1, 5, 7, 8, 39, 40, 41, 49]), (15, [0, 1, 5, 7, 8, 39, 40, 41]), (16, [0, 1, 5, 8, 39, 40, 41]), (17, [0, 1, 5, 8, 39, 40, 41]), (18, [0, 1, 5, 8]), (19, [0, 1, 8]), (20, [0, 1, 8]), (21, [1, 8, 63, 64, 65]), (22, [1, 8, 63, 64, 65, 66]), (23, [1, 8, 10, 63, 64, 65]), (24, [1, 8, 10, 63, 64, 65]), (25, [1, 8, 63, 64, 65]), (26, [1, 8, 63, 64, 65]), (27, [4, 8]), (100012, [0, 1, 5, 8, 39, 40, 41]), (100022, [1, 8, 63, 64, 65])]),
(46, [(0, [0, 1]), (1, [0, 1, 10]), (2, [4]), (3, [0, 1, 12, 13]), (4, [0, 1, 12, 13, 14]), (5, [0, 1, 5, 12, 13]), (6, [0, 1, 12, 13, 24]), (7, [4]), (8, [0, 1, 12, 13]), (9, [4]), (100004, [0, 1, 12, 13])]),
(47, [(0, [0, 1, 2]), (1, [0, 1, 2, 11, 12, 13]), (2, [0, 1, 2, 11, 12, 13, 14]), (3, [0, 1, 2, 7, 8, 11, 12, 13]), (4, [0, 1, 2, 7, 8, 11, 12, 13, 21]), (5, [6]), (6, [0, 1, 2, 8, 9, 11, 12, 13]), (7, [0, 1, 2, 10, 11, 12, 13]), (8, [0, 1, 2, 10, 11, 12, 13, 31]), (9, [6]), (10, [0, 1, 2, 11, 12, 13]), (11, [38]), (12, [6]), (13, [6]), (100002, [0, 1, 2, 11, 12, 13])]),
(48, [(0, [0, 1]), (1, [4])]),
(49, [(0, [0]), (1, [2])]),
(50, [(0, [0]), (1, [0, 6, 7]), (2, [0, 6, 7, 8]), (3, [0, 3, 6, 7]), (4, [0, 4, 6, 7]), (5, [2]), (6, [0, 4, 6, 7, 13]), (7, [0, 4, 6, 7, 13]), (8, [0, 4, 6, 7, 13]), (9, [0, 6, 7, 13]), (10, [0, 6, 7]), (11, [2]), (100002, [0, 6, 7])]),
(51, [(0, [0, 1]), (1, [4])]),
(52, [(0, [0]), (1, [0, 3]), (2, [0, 3, 8]), (3, [0, 3]), (4, [0, 3, 4]), (5, [0, 3, 36]), (6, [2]), (7, [2]), (100002, [0, 3])]),
(53, [(0, [1, 2]), (1, [1, 2, 3]), (2, [1, 2, 3, 10]), (3, [1, 2]), (4, [1, 2, 3, 13]), (5, [1, 2, 3, 13, 14]), (6, [1, 2]), (7, [1, 2, 3, 20]), (8, [1, 2]), (9, [1, 2, 3, 4]), (10, [1, 2, 3, 4, 5]), (11, [1, 2, 3, 4, 5, 30]), (12, [1, 2]), (13, [1, 2, 3, 4, 41]), (14, [1, 2, 3, 4, 43]), (15, [1, 2]), (16, [1, 2, 3, 4, 62]), (17, [1, 2]), (18, [1, 2, 3, 77]), (19, [1, 2]), (20, [1, 2, 3, 88]), (21, [1, 2]), (22, [1, 2])]),
(54, [(0, [2, 3, 5, 7]), (1, [2, 3, 5, 7]), (2, [2, 3, 5, 7, 14, 15, 16]), (3, [2, 3, 5, 7, 14, 15, 16, 17]), (4, [2, 3, 5, 7, 14, 15, 16]), (5, [2, 3, 5, 7, 14, 15, 16]), (6, [2, 3, 5, 7, 14, 15, 16]), (7, [2, 3, 4, 5, 7]), (100003, [2, 3, 5, 7, 14, 15, 16])]),
(55, [(0, [0, 1]), (1, [0, 1, 5]), (2, [0, 1, 5, 10]), (3, [0, 1, 5]), (4, [0, 1, 5, 6]), (5, [0, 1, 5, 6, 16]), (6, [0, 1, 5, 6]), (7, [0, 1, 5, 6, 27]), (8, [4]), (9, [4]), (100002, [0, 1, 5]), (100005, [0, 1, 5, 6])]),
(56, [(0, [0, 1]), (1, [4, 5])]),
(57, [(0, [0, 1]), (1, [4])]),
(58, [(0, [0, 1]), (1, [0, 1, 7]), (2, [0, 1]), (3, [0, 1, 21]), (4, [])]),
(59, [(0, [0, 1]), (1, [0, 1]), (2, [1]), (3, [4, 5])]),
(60, [(0, [0]), (1, [2])]),
(61, [(0, [0, 1]), (1, [4])]),
(62, [(0, [0, 1]), (1, [0, 1, 7, 8]), (2, [0, 1, 7, 8, 9]), (3, [0, 1, 5, 7, 8]), (4, [0, 1, 5, 7, 8, 16]), (5, [4]), (6, [0, 1, 7, 8]), (7, [4]), (100002, [0, 1, 7, 8])]),
(63, [(0, [0, 1]), (1, [0, 1, 5]), (2, [0, 5, 8, 9, 10]), (3, [0, 5, 8, 9, 10, 11]), (4, [0, 5, 7, 8, 9, 10]), (5, [0, 5, 8, 9, 10]), (6, [0, 5, 8, 9, 10]), (7, [4]), (100003, [0, 5, 8, 9, 10])]),
(64, [(0, [0]), (1, [0, 3]), (2, [0, 3, 9, 10, 11]), (3, [0, 3, 9, 10, 11, 12]), (4, [0, 3, 5, 9, 10, 11]), (5, [0, 3, 9, 10, 11]), (6, [0, 3, 9, 10, 11, 20]), (7, [0, 3, 9, 10, 11]), (8, [0, 3, 9, 10, 11]), (9, [0, 6]), (10, [6, 25, 26, 27]), (11, [6, 25, 26, 27, 28]), (12, [6, 8, 25, 26, 27]), (13, [6, 25, 26, 27]), (14, [6, 25, 26, 27]), (15, [2]), (100003, [0, 3, 9, 10, 11]), (100011, [6, 25, 26, 27])]),
(65, [(0, [0, 1]), (1, [4])]),
(66, [(0, [1, 2]), (1, [2, 3])]),
(67, [(0, [0, 1]), (1, [0, 1, 9]), (2, [4, 5]), (3, [4, 5])]),
(68, [(0, [0, 1]), (1, [4])]),
(69, [(0, [0, 6]), (1, []), (2, [19])]),
(70, [(0, [0, 4]), (1, [0, 4]), (2, [])]),
(72, [(0, [0, 1]), (1, [0, 1, 6]), (2, [0, 1]), (3, [0, 1]), (4, [0, 1, 16]), (5, [0]), (6, [4])]),
(73, [(0, [0, 1]), (1, [0, 1, 7, 8]), (2, [0, 1, 7, 8, 9]), (3, [0, 1, 5, 7, 8]), (4, [0, 1, 5, 7, 8, 16]), (5, [4]), (6, [0, 1, 7, 8]), (7, [4]), (100002, [0, 1, 7, 8])]),
(74, [(0, [0, 1]), (1, [4])])]
/-- Functions of the library, by their contracts. -/
def extF (f : FuncId) : Option (List DV → DHeap → Option (DV × DHeap)) :=
  if f = 57 then some indexF else if f = 48 then some compF else if f = 45 then some joinF else
  if f = 72 then some (growF 2) else
  none
/-- Functions that look into the heap that is there. -/
def onHeap : List FuncId := [
  65, 73, 66,
  1000000]
def cfg : Cfg where
  pure f := !(onHeap.contains f)
  esc f s := match escT.lookup f with | some l => l.contains s | none => false
  xfer f s := match xferT.lookup f with | some l => l.contains s | none => false
  keep f id := match keepT.lookup f with | some l => l.lookup id | none => none
  ext := extF
end Go.DS

/-
  strings.Join, strings.IndexByte, strings.Compare: the library's contracts, over this program; what the evaluator is told of them holds.
-/
namespace Go.DS
open Go Go.Proofs Go.Shelf
set_option linter.unusedVariables false
def jren : Ren := ⟨fun | 156 => 45 | 165 => 58 | 166 => 59 | 169 => 60 | 240 => 69 | 241 => 70 | 276 => 76 | 277 => 77 | n => n,
  fun | 0 => 0 | 3 => 3 | 4 => 4 | 5 => 5 | 9 => 9 | 20 => 20 | 31 => 25 | 37 => 35 | 70 => 67 | 72 => 69 | 75 => 72 | 80 => 75 | 76 => 73 | 127 => 82 | 164 => 86 | n => n, fun n => n⟩
theorem jlays : Lays.n156 Try.prog jren where
  mixed := by kernel_rfl
  f156 := by kernel_rfl
  f165 := by kernel_rfl
  f166 := by kernel_rfl
  f169 := by kernel_rfl
  f240 := by kernel_rfl
  f241 := by kernel_rfl
  f276 := by kernel_rfl
  f277 := by kernel_rfl
  t0 := Try.underlying0
  a0 := Try.isAgg0
  z0 := Try.sizeOf0
  v0 := Try.zeroValue0
  t3 := Try.underlying3
  a3 := Try.isAgg3
  z3 := Try.sizeOf3
  v3 := Try.zeroValue3
  t4 := Try.underlying4
  a4 := Try.isAgg4
  z4 := Try.sizeOf4
  v4 := Try.zeroValue4
  t9 := Try.underlying9
  a9 := Try.isAgg9
  z9 := Try.sizeOf9
  v9 := Try.zeroValue9
  t20 := Try.underlying20
  a20 := Try.isAgg20
  z20 := Try.sizeOf20
  v20 := Try.zeroValue20
  t31 := Try.underlying25
  a31 := Try.isAgg25
  z31 := Try.sizeOf25
  v31 := Try.zeroValue25
  t37 := Try.underlying35
  a37 := Try.isAgg35
  z37 := Try.sizeOf35
  v37 := Try.zeroValue35
  t70 := Try.underlying67
  a70 := Try.isAgg67
  z70 := Try.sizeOf67
  v70 := Try.zeroValue67
  t72 := Try.underlying69
  a72 := Try.isAgg69
  z72 := Try.sizeOf69
  v72 := Try.zeroValue69
  t75 := Try.underlying72
  a75 := Try.isAgg72
  z75 := Try.sizeOf72
  v75 := Try.zeroValue72
  t76 := Try.underlying73
  a76 := Try.isAgg73
  z76 := Try.sizeOf73
  v76 := Try.zeroValue73
  t127 := Try.underlying82
  a127 := Try.isAgg82
  z127 := Try.sizeOf82
  v127 := Try.zeroValue82
  t164 := Try.underlying86
  a164 := Try.isAgg86
  z164 := Try.sizeOf86
  v164 := Try.zeroValue86
theorem jextra : Builder.Extra Try.prog jren where
  sizeBuilder := by kernel_rfl
  liesBuilder := by kernel_rfl
  t5 := Try.underlying5
  a5 := Try.isAgg5
  z5 := Try.sizeOf5
  v5 := Try.zeroValue5
  infoByte := by kernel_rfl
  cellsByte := by kernel_rfl
  sizeByte := by kernel_rfl
  neB5 := by decide
end Go.DS

/-
  From the evaluator's answer to a call's contract; the library's functions.
-/
namespace Go.DS
open Go Go.Proofs Go.Shelf Go.RowKit
set_option linter.unusedVariables false
set_option linter.unusedSimpArgs false

/-- The ghost state ahead of a law's call: nothing of the old memory is ever written. -/
def gh0 (w : World) : Gh where
  n := 0
  η := fun _ => 0
  pc := fun b o => match w.cell? ⟨b, o, none⟩ with
    | some v => if v.oneCell' then some v else none
    | none => none
  kind := fun _ => .foreign
  one := fun b o v h => by
    split at h
    · split at h
      · rename_i hv; cases h; exact hv
      · cases h
    · cases h
theorem gh0_pc {w : World} {b o : Nat} {v : Value} (hc : w.cell? ⟨b, o, none⟩ = some v) (hv : v.oneCell' = true) : (gh0 w).pc b o = some v := by
  simp only [gh0, hc, hv, if_true]
theorem gh0_inv (w : World) : WInv (gh0 w) [] w where
  n := rfl
  pc b o v h := by
    simp only [gh0] at h
    split at h
    · split at h
      · cases h; assumption
      · cases h
    · cases h
  obj i o h := by simp at h

theorem start {P : Program} {C : Cfg} (hext : ExtS P C) {k : FuncId} {args : List DV} {r : Value} {h' : DHeap} (hl : lim P C k args [] = some (.sc r, h')) {vs : Array Value} (w : World) (hr : RelL (gh0 w) args vs.toList) :
    Calls P k vs w fun e w' => e = .returned r ∧ Below w.heap.size w w' := by
  refine (lim_sound hext _ _ _ _ _ hl 0 (gh0 w) w vs (gh0_inv w) hr).mono ?_
  rintro e w' ⟨g', v, s, rfl, hE, hW, hv, ho⟩
  have : v = r := by cases hv; rfl
  subst this
  exact ⟨rfl, hE.os, hE.tape, hE.output, hE.size, fun b hb => hE.heap b hb (by simp [gh0, Keep])⟩

theorem below_touch {g : Gh} {h : DHeap} {w w' : World} (hb : Below w.heap.size w w') (hW : WInv g h w) : Touch w'.heap.size g g w w' where
  heap k _ hk := hb.block k hk
  pcb o v hv := hv
  pcx k _ := rfl
  pcw o v hv := by
    have := lt_of_cell (hW.pc _ _ _ hv)
    have := hb.size
    omega
  kind k _ := rfl
  n := Nat.le_refl _
  η _ _ := rfl
  size := hb.size
  os := hb.os
  tape := hb.tape
  output := hb.output

/-- A function that leaves the old memory as it was, and hands back what names none. -/
theorem callOK_of {P : Program} {k : FuncId} {args : List DV} {h : DHeap} {r : Value} (H : ∀ (g : Gh) (w : World) (vs : Array Value), WInv g h w → RelL g args vs.toList → Calls P k vs w fun e w' => e = .returned r ∧ Below w.heap.size w w') : CallOK P k args h (.sc r) h := by
  intro d g w vs hW hR
  refine (H g w vs hW hR).mono ?_
  rintro e w' ⟨rfl, hb⟩
  have ht := below_touch hb hW
  exact ⟨g, r, 0, rfl, ht.ext (.inl hb.size), ht.winv rfl (.inl hb.size) hW, .sc r, .none rfl⟩

theorem sc_inv {g : Gh} {u v : Value} (h : RelV g (.sc u) v) : v = u := by cases h; rfl
theorem rel2 {g : Gh} {d e : DV} {vs : Array Value} (h : RelL g [d, e] vs.toList) : ∃ u v, vs = #[u, v] ∧ RelV g d u ∧ RelV g e v := by
  obtain ⟨u, us, h1, hu, h2⟩ := h.cons_inv
  obtain ⟨v, us', rfl, hv, h3⟩ := h2.cons_inv
  have := h3.nil_inv
  subst this
  exact ⟨u, v, by rw [← Array.toList_inj]; exact h1, hu, hv⟩

theorem index_ok {s : ByteArray} {c : Int} {h : DHeap} : CallOK Try.prog 57 [.sc (.string s), .sc (.int .u8 c)] h (.sc (.int .i64 (Lib.indexByte s.data.toList (byteOf c)))) h :=
  callOK_of fun g w vs hW hR => by
    obtain ⟨u, v, rfl, hu, hv⟩ := rel2 hR
    obtain rfl := sc_inv hu
    obtain rfl := sc_inv hv
    refine (Try.strings_IndexByte s c w).mono ?_
    rintro e w' ⟨rfl, rfl⟩
    exact ⟨rfl, Below.refl _ _⟩
theorem compare_ok {s u : ByteArray} {h : DHeap} : CallOK Try.prog 48 [.sc (.string s), .sc (.string u)] h (.sc (.int .i64 (Lib.compareBytes s.data.toList u.data.toList))) h :=
  callOK_of fun g w vs hW hR => by
    obtain ⟨a, b, rfl, hu, hv⟩ := rel2 hR
    obtain rfl := sc_inv hu
    obtain rfl := sc_inv hv
    refine (Try.strings_Compare s u w).mono ?_
    rintro e w' ⟨rfl, rfl⟩
    exact ⟨rfl, Below.refl _ _⟩
theorem strsOf_get : ∀ {l : List (List DV)} {xs : List Str}, strsOf l = some xs → l = xs.map fun s => [.sc (.string (mkB s))]
  | [], xs, h => by simp [strsOf] at h; subst h; rfl
  | r :: l, xs, h => by
    unfold strsOf at h
    split at h
    · rename_i heq; cases heq
    · rename_i s l' heq
      cases heq
      split at h
      · rename_i q hq
        cases h
        rw [List.map_cons, ← strsOf_get hq]
        rfl
      · cases h
    · cases h
theorem flat_one (xs : List Str) : (xs.map fun s => [DV.sc (.string (mkB s))]).flatten = xs.map fun s => DV.sc (.string (mkB s)) := by
  induction xs with
  | nil => rfl
  | cons x xs ih => simp only [List.map_cons, List.flatten_cons, ih]; rfl
theorem join_ok' {own : Bool} {l : List (List DV)} {s : ByteArray} {xs : List Str} {h : DHeap} (hx : strsOf l = some xs) (h1 : xs.length ≤ 1048576) (h2 : (Lib.join xs s.data.toList).length ≤ 1099511627776) :
    CallOK Try.prog 45 [.list own 1 l, .sc (.string s)] h (.sc (.string (mkB (Lib.join xs s.data.toList)))) h :=
  callOK_of fun g w vs hW hR => by
    obtain ⟨a, b, rfl, hu, hv⟩ := rel2 hR
    obtain rfl := sc_inv hv
    have hl := strsOf_get hx
    subst hl
    have hxs : (xs.map mkB).map (·.data.toList) = xs := by rw [List.map_map]; exact List.map_id' xs
    generalize hll : (xs.map fun s => [DV.sc (.string (mkB s))]) = ll at hu
    cases hu with
    | list q1 q2 q3 q4 q5 =>
      subst hll
      rename_i cap b off vs
      rw [flat_one] at q3 q4
      have hcells : ∀ (j : Nat) x, (xs.map mkB)[j]? = some x → w.cell? ⟨b, off + j, none⟩ = some (.string x) := fun j x hj => by
        rw [List.getElem?_map] at hj
        cases hxj : xs[j]? with
        | none => rw [hxj] at hj; cases hj
        | some y =>
          rw [hxj] at hj
          cases hj
          have hj1 : (xs.map fun s => DV.sc (.string (mkB s)))[j]? = some (.sc (.string (mkB y))) := by rw [List.getElem?_map, hxj]; rfl
          obtain ⟨v, hv1, hv2⟩ := RelL.get ⟨q3, q4⟩ hj1
          obtain rfl := sc_inv hv2
          exact hW.pc _ _ _ (q5 j _ hv1)
      cases xs with
      | nil =>
        refine (Any.strings_Join_none jlays jextra _ _ s w).mono ?_
        rintro e w' ⟨rfl, rfl⟩
        exact ⟨rfl, Below.refl _ _⟩
      | cons x xs =>
        have hbk : b < w.heap.size := lt_of_cell (hcells 0 (mkB x) rfl)
        have := Any.strings_Join jlays jextra b off cap ((x :: xs).map mkB) s w hcells hbk (by simp at h1 ⊢; omega) (by simpa using q1) (by rw [hxs]; omega)
        rw [hxs] at this
        simp only [List.length_map] at this q1 ⊢
        refine Calls.mono this ?_
        rintro e w' ⟨rfl, hb⟩
        exact ⟨rfl, hb⟩
    | empty =>
      have : xs = [] := by cases xs with
        | nil => rfl
        | cons => simp at hll
      subst this
      refine (Any.strings_Join_none jlays jextra _ _ s w).mono ?_
      rintro e w' ⟨rfl, rfl⟩
      exact ⟨rfl, Below.refl _ _⟩

end Go.DS

/-
  slices.Grow of nil: the kit's contract, over this program.
-/
namespace Go.DS
open Go Go.Proofs Go.Shelf
set_option linter.unusedVariables false
set_option linter.unusedSimpArgs false
def glays_ren : Ren := ⟨fun | 4 => 72 | n => n,
  fun | 22 => 46 | 25 => 51 | 3 => 3 | 4 => 4 | 9 => 9 | 20 => 20 | 0 => 0 | n => n,
  fun n => n⟩
theorem glays : Lays8.n4 Try.prog glays_ren where
  mixed := by kernel_rfl
  f4 := ⟨"slices.Grow[[]syndic/touch.Cell,syndic/touch.Cell]", of_decide_eq_true (by kernel_rfl), Try.func72.trans (congrArg some (by kernel_rfl))⟩
  t0 := Try.underlying0
  a0 := Try.isAgg0
  z0 := Try.sizeOf0
  v0 := Try.zeroValue0
  t3 := Try.underlying3
  a3 := Try.isAgg3
  z3 := Try.sizeOf3
  v3 := Try.zeroValue3
  t4 := Try.underlying4
  a4 := Try.isAgg4
  z4 := Try.sizeOf4
  v4 := Try.zeroValue4
  t9 := Try.underlying9
  a9 := Try.isAgg9
  z9 := Try.sizeOf9
  v9 := Try.zeroValue9
  t20 := Try.underlying20
  a20 := Try.isAgg20
  z20 := Try.sizeOf20
  v20 := Try.zeroValue20
  t22 := Try.underlying46
  a22 := Try.isAgg46
  z22 := Try.sizeOf46
  v22 := Try.zeroValue46
theorem zeroCells_size (z : Array Value) (n : Nat) : (Builtin.zeroCells z n).size = n * z.size := by simp [Builtin.zeroCells]
theorem grow_ok_of {P : Program} {ρ : Ren} (L : Lays8.n4 P ρ) {s b : Nat} (hi : (P.info? (ρ.t 25)).map (fun i => (i.size, i.bytes, i.zero.map (·.cells.size))) = some (s, b, some s)) (hs : 0 < s) (hb : b ≤ 100000)
    {args : List DV} {h : DHeap} {r : DV} {h' : DHeap} (hx : growF s args h = some (r, h')) : CallOK P (ρ.f 4) args h r h' := by
  unfold growF at hx
  split at hx
  · rename_i h0 n
    split at hx
    · rename_i hn
      cases hx
      obtain ⟨m, rfl⟩ : ∃ m : Nat, n = m := ⟨n.toNat, by omega⟩
      intro d g w vs hW hR
      obtain ⟨u, v, rfl, hu, hv⟩ := rel2 hR
      obtain rfl := sc_inv hu
      obtain rfl := sc_inv hv
      by_cases hm : m = 0
      · subst hm
        refine (Any8.slices_Grow_room L none 0 0 0 w (by omega) (by omega) (by omega) (by omega)).mono ?_
        rintro e w' ⟨rfl, rfl⟩
        exact ⟨g, _, 0, rfl, .refl .., hW, .empty, .mk_list fun hlt => by simp at hlt⟩
      · cases hI : P.info? (ρ.t 25) with
        | none => rw [hI] at hi; cases hi
        | some i0 =>
          rw [hI] at hi
          simp only [Option.map_some, Option.some.injEq, Prod.mk.injEq] at hi
          obtain ⟨e1, e2, e3⟩ := hi
          cases hz : i0.zero with
          | none => rw [hz] at e3; cases e3
          | some z =>
            rw [hz] at e3
            simp only [Option.map_some, Option.some.injEq] at e3
            refine (Any8.slices_Grow_grow L i0 z hI hz (by omega) none 0 0 m [] w (by omega) (by omega) (by rw [e2]; have : (0 + m) * b ≤ 1048576 * 100000 := Nat.mul_le_mul (by omega) hb; omega) (by omega) (by simp) (fun _ => rfl) (fun a e => by cases e)).mono ?_
            rintro e w' ⟨rfl, rfl⟩
            have hg := grownCap_ge w (0 + m) 0 (ρ.t 25)
            generalize grownCap w (0 + m) 0 (ρ.t 25) = c at hg ⊢
            generalize hX : (([] : List Value).toArray ++ Builtin.zeroCells z.cells (0 + m - 0) ++ Builtin.zeroCells z.cells (c - (0 + m))) = X
            have hXs : X.size = c * s := by
              rw [← hX]
              simp only [List.size_toArray, Array.size_append, zeroCells_size, e3, List.length_nil]
              rw [Nat.zero_add, ← Nat.add_mul]
              congr 1
              omega
            have ht := touch_new_own hW.pc [] X.toList (ρ.t 25) (.ownSlot d 0) (fun u hu => by cases hu)
            rw [List.nil_append, Array.toArray_toList] at ht
            refine ⟨_, _, 0, rfl, ht.ext (.inl (Nat.le_refl _)), ht.winv rfl (.inl (Nat.le_refl _)) hW, .empty, .mk_list fun hlt => ⟨w.heap.size, 0, X, ρ.t 25, rfl, ?_, ?_, ?_, ?_⟩⟩
            · simp [Gh.prot]
            · have := heap_new w.drew (.cells X (ρ.t 25))
              simpa using this
            · simp [hXs]
            · intro o ho
              simp [Gh.prot]
    · cases hx
  · cases hx
theorem growC_ok {args : List DV} {h : DHeap} {r : DV} {h' : DHeap} (hx : growF 2 args h = some (r, h')) : CallOK Try.prog 72 args h r h' :=
  grow_ok_of (b := 24) glays (by kernel_rfl) (by omega) (by omega) hx
end Go.DS

/-
  Walks: paths.name, paths.split, strings.CutPrefix.
-/
namespace Go.DS
open Go Go.Proofs
set_option maxRecDepth 100000
set_option linter.unusedVariables false
set_option linter.unusedSimpArgs false
@[go_sem] theorem ok57 : calleeOK Try.prog 57 = true := by kernel_rfl
@[go_sem] theorem ex57 : (cfg.ext 57).isSome = true := rfl
@[go_sem] theorem ok48 : calleeOK Try.prog 48 = true := by kernel_rfl
@[go_sem] theorem ex48 : (cfg.ext 48).isSome = true := rfl
@[go_sem] theorem ok45 : calleeOK Try.prog 45 = true := by kernel_rfl
@[go_sem] theorem ex45 : (cfg.ext 45).isSome = true := rfl
def cd74 : Cd := .seq (R [cb 4 (.tk (.c (kb false)))] [0, 1]) (.seq (R [c0 5 (.mv (.s 0)), c0 6 (.len 0 (.s 5)), c0 7 (.mv (.s 1)), c0 8 (.len 0 (.s 7)), cb 9 (.bin .geq .any (.s 6) (.s 8)), cb 10 (.mv (.s 9)), cg 11 10 true (.mv (.s 0)), cg 12 10 true (.mv (.s 1)), cg 13 10 true (.len 0 (.s 12)), cg 14 10 true (.ss (.s 11) none (some (.s 13))), cg 15 10 true (.mv (.s 1)), ch 16 10 true (.bin .eql .any (.s 14) (.s 15)), cb 17 (.pick (.s 10) (.s 16) (.c (kb false))), cb 4 (.tk (.s 17))] [4]) (.ret))
theorem fun74 : Fun Try.prog cfg 74 18 cd74 [.s 4] := ⟨rfl, Try.f74, _, Try.func74, rfl, rfl, by kernel_rfl, by kernel_rfl⟩
@[go_sem] theorem ok74 : calleeOK Try.prog 74 = true := by kernel_rfl
@[go_sem] theorem ex74 : (cfg.ext 74).isSome = false := rfl
def cd67 : Cd := .seq (R [c0 4 (.tk (.c (ks []))), cb 5 (.tk (.c (kb false)))] [0, 1]) (.seq (.seq (R [c0 6 (.mv (.s 0)), c0 7 (.mv (.s 1)), cb 8 (.call none (.c (kf 74)) [(.s 6), (.s 7)]), cb 9 (.un .not (.s 8))] [0, 1, 9]) (.ite (.s 9) (.seq (R [c0 10 (.tk (.s 0)), c0 4 (.tk (.s 10)), cb 5 (.tk (.c (kb false)))] [4, 5]) (.ret)) (.skip))) (.seq (R [c0 11 (.mv (.s 0)), c0 12 (.mv (.s 1)), c0 13 (.len 0 (.s 12)), c0 14 (.ss (.s 11) (some (.s 13)) none), c0 4 (.tk (.s 14)), cb 5 (.tk (.c (kb true)))] [4, 5]) (.ret)))
theorem fun67 : Fun Try.prog cfg 67 15 cd67 [.s 4, .s 5] := ⟨rfl, Try.f67, _, Try.func67, rfl, rfl, by kernel_rfl, by kernel_rfl⟩
@[go_sem] theorem ok67 : calleeOK Try.prog 67 = true := by kernel_rfl
@[go_sem] theorem ex67 : (cfg.ext 67).isSome = false := rfl
def cd56 : Cd := .seq (R [c0 4 (.tk (.c (ks []))), cb 5 (.tk (.c (kb false)))] [0, 1]) (.seq (R [c0 6 (.mv (.s 0)), c0 7 (.mv (.s 1)), c0 8 (.call none (.c (kf 67)) [(.s 6), (.s 7)]), c0 9 (.exh (.s 8)), cb 10 (.ext (.s 8) 1), c0 4 (.tk (.s 9)), cb 5 (.tk (.s 10))] [4, 5]) (.ret))
theorem fun56 : Fun Try.prog cfg 56 11 cd56 [.s 4, .s 5] := ⟨rfl, Try.f56, _, Try.func56, rfl, rfl, by kernel_rfl, by kernel_rfl⟩
@[go_sem] theorem ok56 : calleeOK Try.prog 56 = true := by kernel_rfl
@[go_sem] theorem ex56 : (cfg.ext 56).isSome = false := rfl
def cd50 : Cd := .seq (R [cb 2 (.tk (.c (kb false)))] [0]) (.seq (.seq (R [c0 5 (.mv (.s 0)), c0 6 (.len 0 (.s 5)), c0 7 (.mv (.c (ki .i64 0)))] [0, 6, 7]) (.block 0 (LP [0, 6, 7] (.seq (R [cb 8 (.bin .lss .any (.s 7) (.s 6))] [0, 6, 7, 8]) (.seq (.ite (.s 8) (.skip) (.exit 0)) (.seq (.block 1 (.seq (R [c0 9 (.tk (.s 7)), c0 3 (.tk (.s 9))] [0, 3, 6, 7]) (.seq (R [c0 10 (.mv (.s 0)), c0 11 (.mv (.s 3)), c0 12 (.ixs (.s 10) (.s 11)), c0 4 (.tk (.s 12))] [0, 4, 6, 7]) (.block 2 (.seq (.seq (R [c0 14 (.mv (.s 4)), cb 15 (.bin .leq .any (.c (ki .u8 97)) (.s 14)), cb 16 (.mv (.s 15)), cg 17 16 true (.mv (.s 4)), ch 18 16 true (.bin .leq .any (.s 17) (.c (ki .u8 122))), cb 19 (.pick (.s 16) (.s 18) (.c (kb false))), cb 13 (.tk (.s 19))] [0, 4, 6, 7, 13]) (.ite (.s 13) (.skip) (.seq (R [c0 20 (.mv (.s 4)), cb 21 (.bin .leq .any (.c (ki .u8 48)) (.s 20)), cb 22 (.mv (.s 21)), cg 23 22 true (.mv (.s 4)), ch 24 22 true (.bin .leq .any (.s 23) (.c (ki .u8 57))), cb 25 (.pick (.s 22) (.s 24) (.c (kb false))), cb 13 (.tk (.s 25))] [0, 4, 6, 7, 13]) (.ite (.s 13) (.skip) (.seq (R [c0 26 (.mv (.s 4)), cb 27 (.bin .eql .any (.s 26) (.c (ki .u8 45))), cb 13 (.tk (.s 27))] [0, 4, 6, 7, 13]) (.ite (.s 13) (.skip) (R [c0 28 (.mv (.s 4)), cb 29 (.bin .eql .any (.s 28) (.c (ki .u8 95))), cb 13 (.tk (.s 29))] [0, 6, 7, 13]))))))) (.ite (.s 13) (.skip) (.seq (R [cb 2 (.tk (.c (kb false)))] [2]) (.ret)))))))) (R [c0 30 (.bin .add .any (.s 7) (.c (ki .i64 1))), c0 7 (.mv (.s 30))] [0, 6, 7]))))))) (.seq (R [c0 31 (.mv (.s 0)), c0 32 (.len 0 (.s 31)), cb 33 (.bin .lss .any (.c (ki .i64 0)) (.s 32)), cb 34 (.mv (.s 33)), cg 35 34 true (.mv (.s 0)), cg 36 34 true (.len 0 (.s 35)), ch 37 34 true (.bin .leq .any (.s 36) (.c (ki .i64 16))), cb 38 (.pick (.s 34) (.s 37) (.c (kb false))), cb 2 (.tk (.s 38))] [2]) (.ret)))
theorem fun50 : Fun Try.prog cfg 50 39 cd50 [.s 2] := ⟨rfl, Try.f50, _, Try.func50, rfl, rfl, by kernel_rfl, by kernel_rfl⟩
@[go_sem] theorem ok50 : calleeOK Try.prog 50 = true := by kernel_rfl
@[go_sem] theorem ex50 : (cfg.ext 50).isSome = false := rfl
def cd43 : Cd := .seq (R [c0 2 (.tk (.c (kn 1))), cb 3 (.tk (.c (kb false)))] [0]) (.scope (.seq (.seq (R [c0 8 (.mv (.s 0)), cb 9 (.bin .eql .any (.s 8) (.c (ks [47])))] [0, 9]) (.ite (.s 9) (.seq (R [c0 2 (.tk (.c (kn 1))), cb 3 (.tk (.c (kb true)))] [2, 3]) (.ret)) (.skip))) (.seq (R [c0 4 (.tk (.c (kn 1)))] [0, 4]) (.seq (.skip) (.seq (.block 0 (LP [0, 4] (.seq (.seq (R [c0 10 (.mv (.s 0)), cb 11 (.bin .neq .any (.s 10) (.c (ks [])))] [0, 4, 11]) (.ite (.s 11) (.skip) (.exit 0))) (.block 1 (.seq (R [c0 13 (.mv (.s 0)), c0 14 (.call none (.c (kf 56)) [(.s 13), (.c (ks [47]))]), c0 12 (.tk (.s 14)), c0 15 (.exh (.s 12)), cb 16 (.ext (.s 12) 1), c0 5 (.tk (.s 15)), cb 6 (.tk (.s 16))] [4, 5, 6]) (.seq (.seq (R [cb 17 (.mv (.s 6)), cb 18 (.un .not (.s 17))] [4, 5, 18]) (.ite (.s 18) (.seq (R [c0 2 (.tk (.c (kn 1))), cb 3 (.tk (.c (kb false)))] [2, 3]) (.ret)) (.skip))) (.seq (R [c0 19 (.mv (.s 5)), c0 20 (.call none (.c (kf 57)) [(.s 19), (.c (ki .u8 47))]), c0 7 (.tk (.s 20))] [4, 5, 7]) (.seq (.seq (R [c0 21 (.mv (.s 7)), cb 22 (.bin .lss .any (.s 21) (.c (ki .i64 0)))] [4, 5, 7, 22]) (.ite (.s 22) (R [c0 23 (.mv (.s 5)), c0 24 (.len 0 (.s 23)), c0 7 (.tk (.s 24))] [4, 5, 7]) (.skip))) (.seq (R [c0 25 (.tk (.s 4)), c0 26 (.mv (.s 5)), c0 27 (.mv (.s 7)), c0 28 (.ss (.s 26) none (some (.s 27))), c0 29 (.bsl 1 [(.s 28)]), c0 30 (.app 1 18 true (.s 25) (.s 29)), c0 4 (.tk (.s 30))] [4, 5, 7]) (.seq (R [c0 31 (.mv (.s 5)), c0 32 (.mv (.s 7)), c0 33 (.ss (.s 31) (some (.s 32)) none), c0 0 (.tk (.s 33))] [0, 4]) (.seq (R [c0 34 (.mv (.s 4)), c0 35 (.len 1 (.s 34)), cb 36 (.bin .gtr .any (.s 35) (.c (ki .i64 8))), cb 37 (.mv (.s 36)), cg 38 37 false (.mv (.s 4)), cg 39 37 false (.mv (.s 4)), cg 40 37 false (.len 1 (.s 39)), cg 41 37 false (.bin .sub .any (.s 40) (.c (ki .i64 1))), cg 42 37 false (.ixp 1 (.s 38) (.s 41)), cg 43 37 false (.ld false 1 (.s 42)), ch 44 37 false (.call none (.c (kf 50)) [(.s 43)]), ch 45 37 false (.un .not (.s 44)), cb 46 (.pick (.s 37) (.c (kb true)) (.s 45))] [0, 4, 46]) (.ite (.s 46) (.seq (R [c0 4 (.tk (.c (kn 1)))] [4]) (.exit 0)) (.skip))))))))))))) (.seq (R [c0 47 (.tk (.s 4)), c0 48 (.mv (.s 4)), c0 49 (.len 1 (.s 48)), cb 50 (.bin .gtr .any (.s 49) (.c (ki .i64 0))), c0 2 (.tk (.s 47)), cb 3 (.tk (.s 50))] [2, 3]) (.ret)))))))
theorem fun43 : Fun Try.prog cfg 43 51 cd43 [.s 2, .s 3] := ⟨rfl, Try.f43, _, Try.func43, rfl, rfl, by kernel_rfl, by kernel_rfl⟩
@[go_sem] theorem ok43 : calleeOK Try.prog 43 = true := by kernel_rfl
@[go_sem] theorem ex43 : (cfg.ext 43).isSome = false := rfl
variable {h : DHeap}
@[go_sem] theorem index_lim (s : Str) : lim Try.prog cfg 57 [.sc (.string (mkB s)), .sc (.int .u8 47)] h = some (.sc (.int .i64 (if aft s = [] then -1 else ((seg s).length : Int))), h) := by
  refine lim_ext rfl ?_ rfl
  show some (DV.sc (.int .i64 (Lib.indexByte s 47)), h) = _
  rw [index_lt]
theorem isPrefixOf_take (u s : Str) : u.isPrefixOf s = decide (s.take u.length = u) := by
  induction u generalizing s with
  | nil => simp
  | cons c u ih =>
    cases s with
    | nil => simp
    | cons d s => simp only [List.isPrefixOf, List.length_cons, List.take_succ_cons, List.cons.injEq, Bool.decide_and, ih]; congr 1; rw [Bool.eq_iff_iff, beq_iff_eq, decide_eq_true_iff]; exact eq_comm
@[go_sem] theorem hasPrefix_lim (s u : Str) : lim Try.prog cfg 74 [.sc (.string (mkB s)), .sc (.string (mkB u))] h = some (.sc (.bool (u.isPrefixOf s)), h) := by
  refine lim_funp fun74 rfl (by simp) rfl rfl ?_
  delta cd74
  simp -implicitDefEqProofs -dsimp only [go_sem]
  rw [isPrefixOf_take]
  refine ⟨fun h1 => ⟨by omega, by omega, fun h2 => by simp [h2], fun h2 => by simp [h2]⟩, fun h1 => ?_⟩
  have : ¬ (s.take u.length = u) := fun e => by have := congrArg List.length e; simp at this; omega
  simp [this]
@[go_sem] theorem cutPrefix0_lim (s u : Str) : lim Try.prog cfg 67 [.sc (.string (mkB s)), .sc (.string (mkB u))] h = some (.tup [.sc (.string (mkB (if u.isPrefixOf s = true then s.drop u.length else s))), .sc (.bool (u.isPrefixOf s))], h) := by
  refine lim_funp fun67 rfl (by simp) rfl rfl ?_
  delta cd67
  simp -implicitDefEqProofs -dsimp only [go_sem]
  refine ⟨fun h1 => ⟨by omega, ?_, by simp [h1]⟩, fun h1 => by simp [h1]⟩
  rw [isPrefixOf_take] at h1
  have := congrArg List.length (of_decide_eq_true h1)
  simp at this; omega
@[go_sem] theorem cutPrefix_lim (s u : Str) : lim Try.prog cfg 56 [.sc (.string (mkB s)), .sc (.string (mkB u))] h = some (.tup [.sc (.string (mkB (if u.isPrefixOf s = true then s.drop u.length else s))), .sc (.bool (u.isPrefixOf s))], h) := by
  refine lim_funp fun56 rfl (by simp) rfl rfl ?_
  delta cd56
  simp -implicitDefEqProofs -dsimp only [go_sem]
  refine ⟨fun h1 => by simp [h1], fun h1 => by simp [h1]⟩

theorem name_lim (s : Str) (hs : s.length ≤ 1099511627776) : lim Try.prog cfg 50 [.sc (.string (mkB s))] h = some (.sc (.bool (nameOK s)), h) := by
  refine lim_funp fun50 rfl (by simp) rfl rfl ?_
  delta cd50
  simp -implicitDefEqProofs -dsimp only [go_sem]
  refine wp_for (σ := Nat) (fun k => [(0, .sc (.string (mkB s))), (6, .sc (.int .i64 (s.length : Nat))), (7, .sc (.int .i64 (k : Nat)))]) (fun _ => []) (fun k => s.length - k) (fun k => k ≤ s.length ∧ (s.take k).all okc = true) 0 (by simp) rfl rfl ?_
  rintro k ⟨hk, hj⟩ N hN
  simp -implicitDefEqProofs -dsimp only [go_sem]
  refine ⟨fun h1 => ?_, fun h1 => ?_⟩
  · repeat' first | intro _ | refine And.intro ?_ ?_ | refine Exists.intro (by omega) ?_
    all_goals first
      | exact hN (k + 1) _ (by omega) ⟨by omega, take_all (by omega) hj ((okc_iff _).2 (by omega))⟩ (by simp -implicitDefEqProofs -dsimp only [go_sem, wrap_succ (show k < 9223372036854775807 by omega)])
      | (have := not_all (p := okc) (l := s) (k := k) (by omega) ((okc_not _).2 (by omega))
         simp [nameOK, this])
  · have : k = s.length := by omega
    subst this
    rw [List.take_length] at hj
    simp [nameOK, hj]
    grind

theorem runP_nil (l : List Str) : runP [] l = if l = [] then none else some l := by unfold runP; rfl
theorem runP_cons (c : UInt8) (r : Str) (l : List Str) : runP (c :: r) l = if c ≠ 47 then none else if 8 ≤ l.length ∨ nameOK (seg r) = false then none else runP (aft r) (l ++ [seg r]) := by rw [runP]
/-- What split hands back. -/
def splitV (p : Str) : DV := match parse p with
  | some l => .tup [.list true 1 (ts l), .sc (.bool true)]
  | none => .tup [.list true 1 (ts []), .sc (.bool false)]
theorem split_lim (p : Str) (hs : p.length ≤ 1099511627776) : lim Try.prog cfg 43 [.sc (.string (mkB p))] h = some (splitV p, h) := by
  refine lim_funp fun43 rfl (by simp) rfl ?_ ?_
  · unfold splitV
    cases parse p <;> simp [heapFree, heapFree.all, free_ts]
  delta cd43
  simp -implicitDefEqProofs -dsimp only [go_sem]
  refine ⟨fun h1 => ?_, fun h1 => ?_⟩
  · simp [splitV, parse, h1, ts]
  refine wp_for (σ := Str × List Str) (fun x => [(0, .sc (.string (mkB x.1))), (4, .list true 1 (ts x.2))]) (fun _ => []) (fun x => x.1.length) (fun x => runP x.1 x.2 = parse p ∧ x.1.length ≤ p.length ∧ x.2.length ≤ 8) (p, []) (by simp [parse, h1]) rfl rfl ?_
  rintro ⟨q, l⟩ ⟨hr, hq, hl⟩ N hN
  dsimp only at hr hq hl
  match q, hr, hq, hN with
  | [], hr, hq, hN =>
    simp -implicitDefEqProofs -dsimp only [go_sem]
    rw [runP_nil] at hr
    by_cases hl0 : l = []
    · subst hl0; simp [splitV, ← hr, ts]
    · have := List.length_pos_iff.2 hl0
      simp only [if_neg hl0] at hr
      simp only [splitV, ← hr, true_and]
      exact ⟨fun _ => trivial, fun h => by omega⟩
  | c :: r, hr, hq, hN =>
    rw [runP_cons] at hr
    have hq' : r.length + 1 ≤ p.length := hq
    have hse := seg_aft r
    have hse' : (seg r).length + (aft r).length = r.length := by rw [← List.length_append, hse]
    have hn := name_lim (h := []) (seg r) (by omega)
    by_cases hc : c = 47
    · subst hc
      simp only [ne_eq, not_true_eq_false, if_false] at hr
      have hw : ∀ x : Str, IntKind.wrap .i64 (((l ++ [x]).length : Int) - 1) = (l.length : Int) := fun x => by simp; rw [wrap64 (by omega) (by omega)]
      have hpre : List.isPrefixOf [47] (47 :: r) = true := rfl
      have hf : (DV.tup [DV.list true 1 [], DV.sc (Value.bool false)] = splitV p) ↔ parse p = none := by
        unfold splitV
        cases parse p <;> simp [ts]
      have hneg : ((-1 : Int) < 0) = True := by simp
      by_cases ha : aft r = []
      · have hs1 : seg r = r := by rw [ha, List.append_nil] at hse; exact hse
        rw [hs1] at hn hr
        simp -implicitDefEqProofs -dsimp only [go_sem, hpre, ha, hneg, List.take_length, hw, idxP_last, hn, hf]
        simp only [List.length_append, List.length_cons, List.length_nil] at *
        refine ⟨by omega, by omega, by unfold maxLenD; omega, by omega, by omega, fun h8 => ?_, fun h8 => ⟨fun hk => ?_, fun hk => ?_⟩⟩
        · rw [← hr, if_pos (.inl (by omega))]
        · refine hN (aft r, l ++ [r]) _ ?_ ⟨?_, ?_, ?_⟩ ?_
          · simp only; simp [ha]
          · rw [← hr, if_neg (by simp [hk]; omega)]
          · simp only; omega
          · simp; omega
          · simp -implicitDefEqProofs -dsimp only [go_sem]
            simp [ha]
        · rw [← hr, if_pos (.inr hk)]
      · have hs1 : r.take (seg r).length = seg r := by
          have := List.take_left (l₁ := seg r) (l₂ := aft r); rwa [hse] at this
        have hs2 : r.drop (seg r).length = aft r := by
          have := List.drop_left (l₁ := seg r) (l₂ := aft r); rwa [hse] at this
        have hz : (((seg r).length : Int) < 0) = False := by simp
        simp -implicitDefEqProofs -dsimp only [go_sem, hpre, ha, hz, List.take_length, hs1, hs2, hw, idxP_last, hn, hf]
        simp only [List.length_append, List.length_cons, List.length_nil] at *
        refine ⟨by omega, by omega, by unfold maxLenD; omega, by omega, by omega, fun h8 => ?_, fun h8 => ⟨fun hk => ?_, fun hk => ?_⟩⟩
        · rw [← hr, if_pos (.inl (by omega))]
        · refine hN (aft r, l ++ [seg r]) _ ?_ ⟨?_, ?_, ?_⟩ ?_
          · simp only; omega
          · rw [← hr, if_neg (by simp [hk]; omega)]
          · simp only; omega
          · simp; omega
          · simp -implicitDefEqProofs -dsimp only [go_sem]
        · rw [← hr, if_pos (.inr hk)]
    · have hpre : List.isPrefixOf [47] (c :: r) = false := by simp [List.isPrefixOf, Ne.symm hc]
      simp only [ne_eq, hc, not_false_eq_true, if_true] at hr
      simp -implicitDefEqProofs -dsimp only [go_sem, hpre]
      simp [splitV, ← hr, ts]
end Go.DS

/-
  Walks: slices.Equal, slices.CompareFunc, slices.ContainsFunc, strings.Compare, strings.Join, paths.Of.
-/
namespace Go.DS
open Go Go.Proofs
set_option maxRecDepth 100000
set_option linter.unusedVariables false
set_option linter.unusedSimpArgs false
def cd46 : Cd := .seq (R [cb 4 (.tk (.c (kb false)))] [0, 1]) (.seq (.seq (R [c0 6 (.mv (.s 0)), c0 7 (.len 1 (.s 6)), c0 8 (.mv (.s 1)), c0 9 (.len 1 (.s 8)), cb 10 (.bin .neq .any (.s 7) (.s 9))] [0, 1, 10]) (.ite (.s 10) (.seq (R [cb 4 (.tk (.c (kb false)))] [4]) (.ret)) (.skip))) (.seq (.seq (R [c0 11 (.mv (.s 0)), c0 12 (.len 1 (.s 11)), c0 13 (.mv (.c (ki .i64 0)))] [0, 1, 12, 13]) (.block 0 (LP [0, 1, 12, 13] (.seq (R [c0 14 (.bin .lss .any (.s 13) (.s 12))] [0, 1, 12, 13, 14]) (.seq (.ite (.s 14) (.skip) (.exit 0)) (.seq (.block 1 (.seq (R [c0 15 (.tk (.s 13)), c0 5 (.tk (.s 15))] [0, 1, 5, 12, 13]) (.seq (RD [cd (some 16) false none (.mv (.s 0)) false false [0], cd (some 17) false none (.mv (.s 5)) false false [5], cd (some 18) false none (.ixp 1 (.s 16) (.s 17)) false false [16, 17], cd (some 19) false none (.ld false 1 (.s 18)) false false [18], cd (some 20) false none (.mv (.s 1)) false false [1], cd (some 21) false none (.mv (.s 5)) false false [5], cd (some 22) false none (.ixp 1 (.s 20) (.s 21)) false false [20, 21], cd (some 23) false none (.ld false 1 (.s 22)) false false [22], cd (some 24) true none (.bin .neq .any (.s 19) (.s 23)) false false [19, 23]] [0, 1, 12, 13, 24] []) (.ite (.s 24) (.seq (R [cb 4 (.tk (.c (kb false)))] [4]) (.ret)) (.skip))))) (R [c0 25 (.bin .add .any (.s 13) (.c (ki .i64 1))), c0 13 (.mv (.s 25))] [0, 1, 12, 13]))))))) (.seq (R [cb 4 (.tk (.c (kb true)))] [4]) (.ret))))
theorem fun46 : Fun Try.prog cfg 46 26 cd46 [.s 4] := ⟨rfl, Try.f46, _, Try.func46, rfl, rfl, by kernel_rfl, by kernel_rfl⟩
@[go_sem] theorem ok46 : calleeOK Try.prog 46 = true := by kernel_rfl
@[go_sem] theorem ex46 : (cfg.ext 46).isSome = false := rfl
def cd47 : Cd := .seq (R [c0 6 (.tk (.c (ki .i64 0)))] [0, 1, 2]) (.seq (.seq (R [c0 11 (.mv (.s 0)), c0 12 (.len 1 (.s 11)), c0 13 (.mv (.c (ki .i64 0)))] [0, 1, 2, 11, 12, 13]) (.block 0 (LP [0, 1, 2, 11, 12, 13] (.seq (R [c0 14 (.bin .lss .any (.s 13) (.s 12))] [0, 1, 2, 11, 12, 13, 14]) (.seq (.ite (.s 14) (.skip) (.exit 0)) (.seq (.block 1 (.seq (R [c0 15 (.tk (.s 13)), c0 16 (.ixp 1 (.s 11) (.s 13)), c0 17 (.ldx true false 1 (.s 16)), c0 7 (.tk (.s 15)), c0 8 (.tk (.s 17))] [0, 1, 2, 7, 8, 11, 12, 13]) (.seq (.seq (R [c0 18 (.mv (.s 7)), c0 19 (.mv (.s 1)), c0 20 (.len 1 (.s 19)), cb 21 (.bin .geq .any (.s 18) (.s 20))] [0, 1, 2, 7, 8, 11, 12, 13, 21]) (.ite (.s 21) (.seq (R [c0 6 (.tk (.c (ki .i64 1)))] [6]) (.ret)) (.skip))) (.seq (R [c0 22 (.mv (.s 1)), c0 23 (.mv (.s 7)), c0 24 (.ixp 1 (.s 22) (.s 23)), c0 25 (.ldx true false 1 (.s 24)), c0 9 (.tk (.s 25))] [0, 1, 2, 8, 9, 11, 12, 13]) (.seq (R [c0 26 (.mv (.s 2)), c0 27 (.mv (.s 8)), c0 28 (.mv (.s 9)), c0 29 (.call none (.s 26) [(.s 27), (.s 28)]), c0 10 (.tk (.s 29))] [0, 1, 2, 10, 11, 12, 13]) (.seq (R [c0 30 (.mv (.s 10)), cb 31 (.bin .neq .any (.s 30) (.c (ki .i64 0)))] [0, 1, 2, 10, 11, 12, 13, 31]) (.ite (.s 31) (.seq (R [c0 32 (.tk (.s 10)), c0 6 (.tk (.s 32))] [6]) (.ret)) (.skip)))))))) (R [c0 33 (.bin .add .any (.s 13) (.c (ki .i64 1))), c0 13 (.mv (.s 33))] [0, 1, 2, 11, 12, 13]))))))) (.seq (.seq (R [c0 34 (.mv (.s 0)), c0 35 (.len 1 (.s 34)), c0 36 (.mv (.s 1)), c0 37 (.len 1 (.s 36)), cb 38 (.bin .lss .any (.s 35) (.s 37))] [38]) (.ite (.s 38) (.seq (R [c0 6 (.tk (.c (ki .i64 (-1))))] [6]) (.ret)) (.skip))) (.seq (R [c0 6 (.tk (.c (ki .i64 0)))] [6]) (.ret))))
theorem fun47 : Fun Try.prog cfg 47 39 cd47 [.s 6] := ⟨rfl, Try.f47, _, Try.func47, rfl, rfl, by kernel_rfl, by kernel_rfl⟩
@[go_sem] theorem ok47 : calleeOK Try.prog 47 = true := by kernel_rfl
@[go_sem] theorem ex47 : (cfg.ext 47).isSome = false := rfl
def cd62 : Cd := .seq (R [c0 4 (.tk (.c (ki .i64 0)))] [0, 1]) (.seq (.seq (R [c0 6 (.mv (.s 0)), c0 7 (.len 1 (.s 6)), c0 8 (.mv (.c (ki .i64 0)))] [0, 1, 7, 8]) (.block 0 (LP [0, 1, 7, 8] (.seq (R [c0 9 (.bin .lss .any (.s 8) (.s 7))] [0, 1, 7, 8, 9]) (.seq (.ite (.s 9) (.skip) (.exit 0)) (.seq (.block 1 (.seq (R [c0 10 (.tk (.s 8)), c0 5 (.tk (.s 10))] [0, 1, 5, 7, 8]) (.seq (R [c0 11 (.mv (.s 1)), c0 12 (.mv (.s 0)), c0 13 (.mv (.s 5)), c0 14 (.ixp 1 (.s 12) (.s 13)), c0 15 (.ld false 1 (.s 14)), cb 16 (.call none (.s 11) [(.s 15)])] [0, 1, 5, 7, 8, 16]) (.ite (.s 16) (.seq (R [c0 17 (.tk (.s 5)), c0 4 (.tk (.s 17))] [4]) (.ret)) (.skip))))) (R [c0 18 (.bin .add .any (.s 8) (.c (ki .i64 1))), c0 8 (.mv (.s 18))] [0, 1, 7, 8]))))))) (.seq (R [c0 4 (.tk (.c (ki .i64 (-1))))] [4]) (.ret)))
theorem fun62 : Fun Try.prog cfg 62 19 cd62 [.s 4] := ⟨rfl, Try.f62, _, Try.func62, rfl, rfl, by kernel_rfl, by kernel_rfl⟩
@[go_sem] theorem ok62 : calleeOK Try.prog 62 = true := by kernel_rfl
@[go_sem] theorem ex62 : (cfg.ext 62).isSome = false := rfl
def cd51 : Cd := .seq (R [cb 4 (.tk (.c (kb false)))] [0, 1]) (.seq (R [c0 5 (.mv (.s 0)), c0 6 (.mv (.s 1)), c0 7 (.call none (.c (kf 62)) [(.s 5), (.s 6)]), cb 8 (.bin .geq .any (.s 7) (.c (ki .i64 0))), cb 4 (.tk (.s 8))] [4]) (.ret))
theorem fun51 : Fun Try.prog cfg 51 9 cd51 [.s 4] := ⟨rfl, Try.f51, _, Try.func51, rfl, rfl, by kernel_rfl, by kernel_rfl⟩
@[go_sem] theorem ok51 : calleeOK Try.prog 51 = true := by kernel_rfl
@[go_sem] theorem ex51 : (cfg.ext 51).isSome = false := rfl
def cd49 : Cd := .seq (R [cb 2 (.tk (.c (kb false)))] [0]) (.seq (R [c0 3 (.mv (.s 0)), cb 4 (.call none (.c (kf 50)) [(.s 3)]), cb 5 (.un .not (.s 4)), cb 2 (.tk (.s 5))] [2]) (.ret))
theorem fun49 : Fun Try.prog cfg 49 6 cd49 [.s 2] := ⟨rfl, Try.f49, _, Try.func49, rfl, rfl, by kernel_rfl, by kernel_rfl⟩
@[go_sem] theorem ok49 : calleeOK Try.prog 49 = true := by kernel_rfl
@[go_sem] theorem ex49 : (cfg.ext 49).isSome = false := rfl
def cd29 : Cd := .seq (R [c0 2 (.tk (.c (ks []))), c0 3 (.tk (.c (ki .i64 0)))] [0]) (.seq (R [c0 4 (.tk (.c (kf 49)))] [0, 4]) (.seq (.seq (R [c0 5 (.mv (.s 0)), c0 6 (.len 1 (.s 5)), cb 7 (.bin .gtr .any (.s 6) (.c (ki .i64 8))), cb 8 (.mv (.s 7)), cg 9 8 false (.mv (.s 0)), cg 10 8 false (.mv (.s 4)), ch 11 8 false (.call none (.c (kf 51)) [(.s 9), (.s 10)]), cb 12 (.pick (.s 8) (.c (kb true)) (.s 11))] [0, 12]) (.ite (.s 12) (.seq (R [c0 2 (.tk (.c (ks []))), c0 3 (.tk (.c (ki .i64 1)))] [2, 3]) (.ret)) (.skip))) (.seq (R [c0 13 (.mv (.s 0)), c0 14 (.call none (.c (kf 45)) [(.s 13), (.c (ks [47]))]), c0 15 (.bin .add .any (.c (ks [47])) (.s 14)), c0 2 (.tk (.s 15)), c0 3 (.tk (.c (ki .i64 0)))] [2, 3]) (.ret))))
theorem fun29 : Fun Try.prog cfg 29 16 cd29 [.s 2, .s 3] := ⟨rfl, Try.f29, _, Try.func29, rfl, rfl, by kernel_rfl, by kernel_rfl⟩
@[go_sem] theorem ok29 : calleeOK Try.prog 29 = true := by kernel_rfl
@[go_sem] theorem ex29 : (cfg.ext 29).isSome = false := rfl
variable {h : DHeap}
/-- A list of texts, as a value. -/
abbrev vts (own : Bool) (l : List Str) : DV := .list own 1 (ts l)
abbrev vs (s : Str) : DV := .sc (.string (mkB s))
abbrev vi (n : Int) : DV := .sc (.int .i64 n)
abbrev vb (b : Bool) : DV := .sc (.bool b)

@[go_sem] theorem compare_lim (s u : Str) : lim Try.prog cfg 48 [vs s, vs u] h = some (vi (Lib.compareBytes s u), h) := lim_ext rfl rfl rfl
theorem join_lim (own : Bool) (l : List Str) (u : Str) (h1 : l.length ≤ 1048576) (h2 : (Lib.join l u).length ≤ 1099511627776) : lim Try.prog cfg 45 [vts own l, vs u] h = some (vs (Lib.join l u), h) := by
  refine lim_ext rfl ?_ rfl
  show joinF [vts own l, vs u] h = _
  simp only [joinF, strsOf_ts]
  exact if_pos ⟨h1, h2⟩

theorem equal_lim (o1 o2 : Bool) (l m : List Str) (hl : l.length ≤ 1099511627776) : lim Try.prog cfg 46 [vts o1 l, vts o2 m] h = some (vb (decide (l = m)), h) := by
  refine lim_funp fun46 rfl (by simp) (by simp [heapFree, free_ts]) rfl ?_
  delta cd46
  simp -implicitDefEqProofs -dsimp only [go_sem]
  refine ⟨fun h1 => ?_, fun h1 => ?_⟩
  · have hlen : l.length = m.length := by omega
    refine wp_for (σ := Nat) (fun k => [(0, vts false l), (1, vts false m), (12, vi (l.length : Nat)), (13, vi (k : Nat))]) (fun _ => []) (fun k => l.length - k) (fun k => k ≤ l.length ∧ l.take k = m.take k) 0 (by simp) rfl rfl ?_
    rintro k ⟨hk, hj⟩ N hN
    simp -implicitDefEqProofs -dsimp only [go_sem]
    refine ⟨fun h2 => ⟨by omega, by omega, fun h3 => ?_, fun h3 => ?_⟩, fun h2 => ?_⟩
    · refine hN (k + 1) _ (by omega) ⟨by omega, ?_⟩ (by simp -implicitDefEqProofs -dsimp only [go_sem, wrap_succ (show k < 9223372036854775807 by omega)])
      rw [List.take_succ_eq_append_getElem (by omega), List.take_succ_eq_append_getElem (by omega), hj, h3]
    · have : l ≠ m := fun e => by subst e; exact h3 rfl
      simp [this]
    · have : k = l.length := by omega
      subst this
      rw [List.take_length, hlen, List.take_length] at hj
      simp [hj]
  · have : l ≠ m := fun e => by subst e; exact h1 rfl
    simp [this]

def cmpF {α : Type} (F : α → α → Int) : List α → List α → Int
  | [], [] => 0
  | [], _ :: _ => -1
  | _ :: _, [] => 1
  | a :: x, b :: y => if F a b ≠ 0 then F a b else cmpF F x y
theorem compareFunc_lim (o1 o2 : Bool) (l m : List Str) (k : FuncId) (fs cs : List DV) (F : Str → Str → Int) (hok : calleeOK Try.prog k = true) (hfs : heapFree.all fs = true) (hcs : heapFree.all cs = true)
    (hF : ∀ s u, lim Try.prog cfg k (fs ++ [vs s, vs u] ++ cs) [] = some (vi (F s u), [])) (hl : l.length ≤ 1099511627776) :
    lim Try.prog cfg 47 [vts o1 l, vts o2 m, .fn (.func k) fs cs] h = some (vi (cmpF F l m), h) := by
  refine lim_funp fun47 rfl (by simp) (by simp [heapFree, free_ts, hfs, hcs]) rfl ?_
  delta cd47
  simp -implicitDefEqProofs -dsimp only [go_sem]
  refine wp_for (σ := Nat) (fun i => [(0, vts false l), (1, vts false m), (2, .fn (.func k) fs cs), (11, vts false l), (12, vi (l.length : Nat)), (13, vi (i : Nat))]) (fun _ => []) (fun i => l.length - i) (fun i => i ≤ l.length ∧ i ≤ m.length ∧ cmpF F l m = cmpF F (l.drop i) (m.drop i)) 0 (by simp) rfl rfl ?_
  rintro i ⟨hi, hm, hj⟩ N hN
  simp -implicitDefEqProofs -dsimp only [go_sem, hok, hF]
  have dl : ∀ hh : i < l.length, l.drop i = l[i] :: l.drop (i + 1) := fun hh => List.drop_eq_getElem_cons hh
  have dn : ∀ hh : m.length ≤ i, m.drop i = [] := fun hh => List.drop_eq_nil_of_le hh
  have dm : ∀ hh : i < m.length, m.drop i = m[i] :: m.drop (i + 1) := fun hh => List.drop_eq_getElem_cons hh
  refine ⟨fun h2 => ⟨by omega, fun h3 => ?_, fun h3 => ⟨by omega, fun h4 => ?_, fun h4 => ?_⟩⟩, fun h2 => ⟨fun h3 => ?_, fun h3 => ?_⟩⟩
  · rw [hj, dl (by omega), dn (by omega)]; rfl
  · refine hN (i + 1) _ (by omega) ⟨by omega, by omega, ?_⟩ (by simp -implicitDefEqProofs -dsimp only [go_sem, wrap_succ (show i < 9223372036854775807 by omega)])
    rw [hj, dl (by omega), dm (by omega), cmpF, if_neg (by simpa using h4)]
  · rw [hj, dl (by omega), dm (by omega), cmpF, if_pos (by simpa using h4)]
  · have : i = l.length := by omega
    subst this
    rw [hj, List.drop_length, dm (by omega)]; rfl
  · have : i = l.length := by omega
    subst this
    rw [hj, List.drop_length, dn (by omega)]; rfl

def idxF {α : Type} (F : α → Bool) (l : List α) : Int := match l.findIdx? F with
  | some i => i
  | none => -1
theorem idxF_ge {α : Type} (F : α → Bool) (l : List α) : decide (0 ≤ idxF F l) = l.any F := by
  unfold idxF
  cases hf : l.findIdx? F with
  | none =>
    rw [List.findIdx?_eq_none_iff] at hf
    have : l.any F = false := by rw [List.any_eq_false]; simpa using hf
    simp [this]
  | some i =>
    have : l.any F = true := by
      rw [List.any_eq_true]
      obtain ⟨h1, h2, _⟩ := List.findIdx?_eq_some_iff_getElem.1 hf
      exact ⟨_, List.getElem_mem h1, h2⟩
    simp [this]
theorem indexFunc_lim (o1 : Bool) (l : List Str) (k : FuncId) (fs cs : List DV) (F : Str → Bool) (hok : calleeOK Try.prog k = true) (hfs : heapFree.all fs = true) (hcs : heapFree.all cs = true)
    (hF : ∀ s ∈ l, lim Try.prog cfg k (fs ++ [vs s] ++ cs) [] = some (vb (F s), [])) (hl : l.length ≤ 1099511627776) :
    lim Try.prog cfg 62 [vts o1 l, .fn (.func k) fs cs] h = some (vi (idxF F l), h) := by
  refine lim_funp fun62 rfl (by simp) (by simp [heapFree, free_ts, hfs, hcs]) rfl ?_
  delta cd62
  simp -implicitDefEqProofs -dsimp only [go_sem]
  refine wp_for (σ := Nat) (fun i => [(0, vts false l), (1, .fn (.func k) fs cs), (7, vi (l.length : Nat)), (8, vi (i : Nat))]) (fun _ => []) (fun i => l.length - i) (fun i => i ≤ l.length ∧ ∀ j (hj : j < i) (hl : j < l.length), F l[j] = false) 0 (by simp) rfl rfl ?_
  rintro i ⟨hi, hj⟩ N hN
  by_cases h2 : i < l.length
  · have hf := hF l[i] (List.getElem_mem h2)
    simp -implicitDefEqProofs -dsimp only [go_sem, hok, hf]
    refine ⟨fun _ => ⟨h2, fun h3 => ?_, fun h3 => ?_⟩, fun h3 => by omega⟩
    · have : l.findIdx? F = some i := List.findIdx?_eq_some_iff_getElem.2 ⟨h2, h3, fun j hji => by simpa using hj j hji (by omega)⟩
      simp [idxF, this]
    · refine hN (i + 1) _ (by omega) ⟨by omega, fun j hji hjl => ?_⟩ (by simp -implicitDefEqProofs -dsimp only [go_sem, wrap_succ (show i < 9223372036854775807 by omega)])
      by_cases hij : j = i
      · subst hij; exact h3
      · exact hj j (by omega) hjl
  · simp -implicitDefEqProofs -dsimp only [go_sem, hok]
    refine ⟨fun h3 => by omega, fun h3 => ?_⟩
    have : l.findIdx? F = none := by
      rw [List.findIdx?_eq_none_iff]
      intro x hx
      obtain ⟨j, hjl, rfl⟩ := List.mem_iff_getElem.1 hx
      exact hj j (by omega) hjl
    simp [idxF, this]
theorem containsFunc_lim (o1 : Bool) (l : List Str) (k : FuncId) (fs cs : List DV) (F : Str → Bool) (hok : calleeOK Try.prog k = true) (hfs : heapFree.all fs = true) (hcs : heapFree.all cs = true)
    (hF : ∀ s ∈ l, lim Try.prog cfg k (fs ++ [vs s] ++ cs) [] = some (vb (F s), [])) (hl : l.length ≤ 1099511627776) :
    lim Try.prog cfg 51 [vts o1 l, .fn (.func k) fs cs] h = some (vb (l.any F), h) := by
  refine lim_funp fun51 rfl (by simp) (by simp [heapFree, free_ts, hfs, hcs]) rfl ?_
  delta cd51
  have hx := indexFunc_lim (h := []) false l k fs cs F hok hfs hcs hF hl
  simp -implicitDefEqProofs -dsimp only [go_sem, hx]
  rw [← idxF_ge]
  exact ⟨fun h1 => by simp [h1], fun h1 => by simp [h1]⟩
theorem of1_lim (s : Str) (hs : s.length ≤ 1099511627776) : lim Try.prog cfg 49 [vs s] h = some (vb (!nameOK s), h) := by
  refine lim_funp fun49 rfl (by simp) rfl rfl ?_
  delta cd49
  have hn := name_lim (h := []) s hs
  simp -implicitDefEqProofs -dsimp only [go_sem, hn]
  exact ⟨fun h1 => by simp [h1], fun h1 => by simp [h1]⟩

/-- The path of names. -/
def pathOf (l : List Str) : Str := 47 :: Lib.join l [47]
def okL (l : List Str) : Bool := decide (l.length ≤ 8) && l.all nameOK
theorem join_le (l : List Str) (h : ∀ s ∈ l, s.length ≤ 16) : (Lib.join l [47]).length ≤ 17 * l.length := by
  unfold Lib.join
  induction l with
  | nil => simp [List.intercalate]
  | cons a l ih =>
    have h1 := h a List.mem_cons_self
    have h2 := ih fun s hs => h s (List.mem_cons_of_mem _ hs)
    cases l with
    | nil => simp [List.intercalate]; omega
    | cons b l =>
      simp only [List.intercalate, List.intersperse_cons_cons, List.flatten_cons, List.length_append, List.length_cons, List.length_nil] at h2 ⊢
      omega
theorem nameOK_le {s : Str} (h : nameOK s = true) : s.length ≤ 16 := by
  simp [nameOK] at h; omega
def ofV (l : List Str) : DV := if okL l = true then .tup [vs (pathOf l), vi 0] else .tup [vs [], vi 1]
theorem pof_lim (own : Bool) (l : List Str) (hl : l.length ≤ 1048576) (hs : ∀ s ∈ l, s.length ≤ 1099511627776) : lim Try.prog cfg 29 [vts own l] h = some (ofV l, h) := by
  refine lim_funp fun29 rfl (by simp) (by simp [heapFree, free_ts]) (by unfold ofV; split <;> rfl) ?_
  delta cd29
  have hc := containsFunc_lim (h := []) false l 49 [] [] (fun s => !nameOK s) ok49 rfl rfl (fun s hsl => of1_lim s (hs s hsl)) (by omega)
  by_cases hok : okL l = true
  · have hok' := hok
    simp only [okL, Bool.and_eq_true, decide_eq_true_eq, List.all_eq_true] at hok'
    have hle := join_le l fun s hsl => nameOK_le (hok'.2 s hsl)
    have hjo := join_lim (h := []) false l [47] hl (by omega)
    have hany : (l.any fun s => !nameOK s) = false := by rw [List.any_eq_false]; intro s hsl; simp [hok'.2 s hsl]
    simp -implicitDefEqProofs -dsimp only [go_sem, hc, hjo, hany]
    refine ⟨fun h1 => by omega, fun h1 => ⟨?_, ?_⟩⟩
    · omega
    · simp [ofV, hok, pathOf]
  · have hany : 8 < l.length ∨ (l.any fun s => !nameOK s) = true := by
      simp only [okL, Bool.and_eq_true, decide_eq_true_eq, not_and] at hok
      by_cases h8 : l.length ≤ 8
      · right
        have := hok h8
        rw [List.any_eq_true]
        simpa using this
      · left; omega
    by_cases h8 : 8 < l.length
    · simp -implicitDefEqProofs -dsimp only [go_sem, hc]
      exact ⟨fun h1 => by simp [ofV, hok], fun h1 => by omega⟩
    · have := hany.resolve_left h8
      simp -implicitDefEqProofs -dsimp only [go_sem, hc, this]
      exact ⟨fun h1 => by simp [ofV, hok], fun h1 => by simp [ofV, hok]⟩
end Go.DS

/-
  Paths: what a path's text is to its names.
-/
namespace Go.DS
open Go

theorem seg_not {r : Str} : ∀ c ∈ seg r, c ≠ 47 := by
  intro c hc
  have := List.all_takeWhile (p := fun x : UInt8 => decide (x ≠ 47)) (l := r)
  rw [List.all_eq_true] at this
  simpa using this c hc
theorem aft_cases (r : Str) : aft r = [] ∨ ∃ r', aft r = 47 :: r' := by
  cases h : aft r with
  | nil => exact .inl rfl
  | cons c r' =>
    right
    have := List.head?_dropWhile_not (p := fun x : UInt8 => decide (x ≠ 47)) (l := r)
    unfold aft at h
    rw [h] at this
    simp at this
    exact ⟨r', by rw [this]⟩
/-- What is between the slashes. -/
def sp (r : Str) : List Str := match h : aft r with
  | [] => [r]
  | _ :: r' => seg r :: sp r'
termination_by r.length
decreasing_by have := aft_le r; rw [h] at this; simp at this; omega
theorem sp_nil {r : Str} (h : aft r = []) : sp r = [r] := by
  unfold sp; split <;> simp_all
theorem sp_cons {r r' : Str} {c : UInt8} (h : aft r = c :: r') : sp r = seg r :: sp r' := by
  rw [sp]; split <;> simp_all
theorem sp_ne (r : Str) : sp r ≠ [] := by
  rcases aft_cases r with h | ⟨r', h⟩
  · rw [sp_nil h]; simp
  · rw [sp_cons h]; simp
theorem seg_all {r : Str} (h : aft r = []) : seg r = r := by
  have := seg_aft r; rwa [h, List.append_nil] at this
theorem join_cons (a b : Str) (l : List Str) : Lib.join (a :: b :: l) [47] = a ++ 47 :: Lib.join (b :: l) [47] := by
  simp [Lib.join, List.intercalate, List.intersperse_cons_cons]
theorem join_one (a : Str) : Lib.join [a] [47] = a := by simp [Lib.join, List.intercalate]
theorem join_nil : Lib.join [] [47] = [] := by simp [Lib.join, List.intercalate]
theorem join_sp (r : Str) : Lib.join (sp r) [47] = r := by
  rcases aft_cases r with h | ⟨r', h⟩
  · rw [sp_nil h, join_one]
  · rw [sp_cons h]
    have ih := join_sp r'
    have hse := seg_aft r
    cases hs : sp r' with
    | nil => exact absurd hs (sp_ne r')
    | cons b l => rw [join_cons, ← hs, ih, ← h, hse]
termination_by r.length
decreasing_by have := aft_le r; rw [h] at this; simp at this; omega
theorem seg_app {a r : Str} (h : ∀ c ∈ a, c ≠ 47) : seg (a ++ 47 :: r) = a ∧ aft (a ++ 47 :: r) = 47 :: r := by
  unfold seg aft
  constructor
  · rw [List.takeWhile_append_of_pos (by simpa using h)]; simp
  · rw [List.dropWhile_append_of_pos (by simpa using h)]; simp
theorem aft_none {a : Str} (h : ∀ c ∈ a, c ≠ 47) : aft a = [] := by
  unfold aft
  induction a with
  | nil => rfl
  | cons c a ih =>
    rw [List.dropWhile_cons_of_pos (by simpa using h c List.mem_cons_self)]
    exact ih fun d hd => h d (List.mem_cons_of_mem _ hd)
theorem sp_join : ∀ (l : List Str), l ≠ [] → (∀ s ∈ l, ∀ c ∈ s, c ≠ 47) → sp (Lib.join l [47]) = l
  | [], h, _ => absurd rfl h
  | [a], _, h => by rw [join_one, sp_nil (aft_none (h a List.mem_cons_self))]
  | a :: b :: l, _, h => by
    have ha := seg_app (a := a) (r := Lib.join (b :: l) [47]) (h a List.mem_cons_self)
    rw [join_cons, sp_cons ha.2, ha.1, sp_join (b :: l) (by simp) fun s hs => h s (List.mem_cons_of_mem _ hs)]
theorem nameOK_not {s : Str} (h : nameOK s = true) : ∀ c ∈ s, c ≠ 47 := by
  intro c hc e
  simp only [nameOK, Bool.and_eq_true, List.all_eq_true] at h
  have := h.1 c hc
  rw [okc_iff] at this
  subst e
  simp at this

theorem runP_sp (r : Str) (l : List Str) : runP (47 :: r) l = if (l ++ sp r).length ≤ 8 ∧ (sp r).all nameOK = true then some (l ++ sp r) else none := by
  rw [runP_cons]
  simp only [ne_eq, not_true_eq_false, if_false]
  rcases aft_cases r with h | ⟨r', h⟩
  · rw [h, runP_nil, sp_nil h, seg_all h]
    simp only [List.length_append, List.length_cons, List.length_nil, List.all_cons, List.all_nil, Bool.and_true]
    by_cases h1 : 8 ≤ l.length ∨ nameOK r = false
    · rw [if_pos h1, if_neg]
      rcases h1 with h1 | h1
      · omega
      · simp [h1]
    · rw [if_neg h1, if_neg (by simp), if_pos]
      simp only [not_or, Bool.not_eq_false] at h1
      exact ⟨by omega, h1.2⟩
  · have ih := runP_sp r' (l ++ [seg r])
    rw [h, ih, sp_cons h]
    have hpos : 0 < (sp r').length := List.length_pos_iff.2 (sp_ne r')
    simp only [List.length_append, List.length_cons, List.length_nil, List.all_cons, List.append_assoc, List.cons_append, List.nil_append, Bool.and_eq_true]
    by_cases h1 : 8 ≤ l.length ∨ nameOK (seg r) = false
    · rw [if_pos h1, if_neg]
      rcases h1 with h1 | h1
      · omega
      · simp [h1]
    · rw [if_neg h1]
      simp only [not_or, Bool.not_eq_false] at h1
      simp only [h1.2, true_and]
termination_by r.length
decreasing_by have := aft_le r; rw [h] at this; simp at this; omega

theorem parse_cons {r : Str} (h : r ≠ []) : parse (47 :: r) = if okL (sp r) = true then some (sp r) else none := by
  unfold parse
  rw [if_neg (by simpa using h), runP_sp]
  simp only [okL, List.nil_append, Bool.and_eq_true, decide_eq_true_eq]
theorem parse_not {c : UInt8} {r : Str} (h : c ≠ 47) : parse (c :: r) = none := by
  unfold parse
  rw [if_neg (by simp [h]), runP_cons, if_pos h]
theorem parse_nil : parse [] = none := by
  unfold parse
  rw [if_neg (by simp), runP_nil, if_pos rfl]
theorem parse_root : parse [47] = some [] := by simp [parse]

theorem parse_some {p : Str} {l : List Str} (h : parse p = some l) : okL l = true ∧ p = pathOf l := by
  match p with
  | [] => rw [parse_nil] at h; cases h
  | c :: r =>
    by_cases hc : c = 47
    · subst hc
      by_cases hr : r = []
      · subst hr; rw [parse_root] at h; cases h; exact ⟨rfl, by simp [pathOf, join_nil]⟩
      · rw [parse_cons hr] at h
        split at h
        · cases h; exact ⟨by assumption, by rw [pathOf, join_sp]⟩
        · cases h
    · rw [parse_not hc] at h; cases h
theorem okL_names {l : List Str} (h : okL l = true) : l.length ≤ 8 ∧ ∀ s ∈ l, nameOK s = true := by
  simpa [okL] using h
theorem join_ne {l : List Str} (h : okL l = true) (h0 : l ≠ []) : Lib.join l [47] ≠ [] := by
  have := okL_names h
  match l, h0 with
  | [a], _ =>
    rw [join_one]
    intro e
    have := this.2 a List.mem_cons_self
    rw [e] at this
    simp [nameOK] at this
  | a :: b :: l, _ => rw [join_cons]; simp
theorem parse_pathOf {l : List Str} (h : okL l = true) : parse (pathOf l) = some l := by
  by_cases h0 : l = []
  · subst h0; simp [pathOf, join_nil, parse_root]
  · have hs := sp_join l h0 fun s hs => nameOK_not ((okL_names h).2 s hs)
    rw [pathOf, parse_cons (join_ne h h0), hs, if_pos h]

/-- The reference's cut. -/
def cutP (p : Str) : List Str := if p = [47] then [] else sp (p.drop 1)
theorem cut_some {p : Str} {l : List Str} (h : parse p = some l) : cutP p = l := by
  obtain ⟨h1, rfl⟩ := parse_some h
  unfold cutP
  by_cases h0 : l = []
  · subst h0; simp [pathOf, join_nil]
  · rw [if_neg (by simpa [pathOf] using join_ne h1 h0)]
    exact sp_join l h0 fun s hs => nameOK_not ((okL_names h1).2 s hs)
theorem valid_iff (p : Str) : (okL (cutP p) && decide (pathOf (cutP p) = p)) = (parse p).isSome := by
  cases h : parse p with
  | some l =>
    obtain ⟨h1, h2⟩ := parse_some h
    rw [cut_some h]
    simp [h1, ← h2]
  | none =>
    rw [Option.isSome_none, ← Bool.not_eq_true]
    intro h1
    simp only [Bool.and_eq_true, decide_eq_true_eq] at h1
    have := parse_pathOf h1.1
    rw [h1.2, h] at this
    cases this
theorem path_len {l : List Str} (h : okL l = true) : 1 ≤ (pathOf l).length ∧ (pathOf l).length ≤ 137 := by
  have h1 := okL_names h
  have := join_le l fun s hs => nameOK_le (h1.2 s hs)
  simp only [pathOf, List.length_cons]
  omega
end Go.DS

/-
  Walks: the functions of paths.
-/
namespace Go.DS
open Go Go.Proofs
set_option maxRecDepth 100000
set_option linter.unusedVariables false
set_option linter.unusedSimpArgs false
def cd14 : Cd := .seq (R [cb 2 (.tk (.c (kb false)))] [0]) (.seq (R [c0 6 (.mv (.s 0)), c0 7 (.call none (.c (kf 43)) [(.s 6)]), c0 5 (.tk (.s 7)), c0 8 (.exh (.s 5)), cb 9 (.ext (.s 5) 1), c0 3 (.tk (.s 8)), cb 4 (.tk (.s 9))] [4]) (.seq (R [cb 10 (.tk (.s 4)), cb 2 (.tk (.s 10))] [2]) (.ret)))
theorem fun14 : Fun Try.prog cfg 14 11 cd14 [.s 2] := ⟨rfl, Try.f14, _, Try.func14, rfl, rfl, by kernel_rfl, by kernel_rfl⟩
@[go_sem] theorem ok14 : calleeOK Try.prog 14 = true := by kernel_rfl
@[go_sem] theorem ex14 : (cfg.ext 14).isSome = false := rfl
def cd17 : Cd := .seq (R [c0 2 (.tk (.c (kn 1)))] [0]) (.seq (R [c0 6 (.mv (.s 0)), c0 7 (.call none (.c (kf 43)) [(.s 6)]), c0 5 (.tk (.s 7)), c0 8 (.exh (.s 5)), cb 9 (.ext (.s 5) 1), c0 3 (.tk (.s 8)), cb 4 (.tk (.s 9))] [3]) (.seq (R [c0 10 (.tk (.s 3)), c0 2 (.tk (.s 10))] [2]) (.ret)))
theorem fun17 : Fun Try.prog cfg 17 11 cd17 [.s 2] := ⟨rfl, Try.f17, _, Try.func17, rfl, rfl, by kernel_rfl, by kernel_rfl⟩
@[go_sem] theorem ok17 : calleeOK Try.prog 17 = true := by kernel_rfl
@[go_sem] theorem ex17 : (cfg.ext 17).isSome = false := rfl
def cd19 : Cd := .seq (R [c0 2 (.tk (.c (ki .i64 0)))] [0]) (.seq (R [c0 6 (.mv (.s 0)), c0 7 (.call none (.c (kf 43)) [(.s 6)]), c0 5 (.tk (.s 7)), c0 8 (.exh (.s 5)), cb 9 (.ext (.s 5) 1), c0 3 (.tk (.s 8)), cb 4 (.tk (.s 9))] [3, 4]) (.seq (.seq (R [cb 10 (.mv (.s 4)), cb 11 (.un .not (.s 10))] [3, 11]) (.ite (.s 11) (.seq (R [c0 2 (.tk (.c (ki .i64 (-1))))] [2]) (.ret)) (.skip))) (.seq (R [c0 12 (.mv (.s 3)), c0 13 (.len 1 (.s 12)), c0 2 (.tk (.s 13))] [2]) (.ret))))
theorem fun19 : Fun Try.prog cfg 19 14 cd19 [.s 2] := ⟨rfl, Try.f19, _, Try.func19, rfl, rfl, by kernel_rfl, by kernel_rfl⟩
@[go_sem] theorem ok19 : calleeOK Try.prog 19 = true := by kernel_rfl
@[go_sem] theorem ex19 : (cfg.ext 19).isSome = false := rfl
def cd21 : Cd := .seq (R [c0 2 (.tk (.c (ks [])))] [0]) (.seq (R [c0 4 (.mv (.s 0)), c0 5 (.call none (.c (kf 17)) [(.s 4)]), c0 3 (.tk (.s 5))] [3]) (.seq (.seq (R [c0 6 (.mv (.s 3)), c0 7 (.len 1 (.s 6)), cb 8 (.bin .eql .any (.s 7) (.c (ki .i64 0)))] [3, 8]) (.ite (.s 8) (.seq (R [c0 2 (.tk (.c (ks [])))] [2]) (.ret)) (.skip))) (.seq (R [c0 9 (.mv (.s 3)), c0 10 (.mv (.s 3)), c0 11 (.len 1 (.s 10)), c0 12 (.bin .sub .any (.s 11) (.c (ki .i64 1))), c0 13 (.sl 1 (.s 9) none (some (.s 12))), c0 14 (.call none (.c (kf 45)) [(.s 13), (.c (ks [47]))]), c0 15 (.bin .add .any (.c (ks [47])) (.s 14)), c0 2 (.tk (.s 15))] [2]) (.ret))))
theorem fun21 : Fun Try.prog cfg 21 16 cd21 [.s 2] := ⟨rfl, Try.f21, _, Try.func21, rfl, rfl, by kernel_rfl, by kernel_rfl⟩
@[go_sem] theorem ok21 : calleeOK Try.prog 21 = true := by kernel_rfl
@[go_sem] theorem ex21 : (cfg.ext 21).isSome = false := rfl
def cd23 : Cd := .seq (R [c0 2 (.tk (.c (ks [])))] [0]) (.seq (R [c0 4 (.mv (.s 0)), c0 5 (.call none (.c (kf 17)) [(.s 4)]), c0 3 (.tk (.s 5))] [3]) (.seq (.seq (R [c0 6 (.mv (.s 3)), c0 7 (.len 1 (.s 6)), cb 8 (.bin .eql .any (.s 7) (.c (ki .i64 0)))] [3, 8]) (.ite (.s 8) (.seq (R [c0 2 (.tk (.c (ks [])))] [2]) (.ret)) (.skip))) (.seq (R [c0 9 (.mv (.s 3)), c0 10 (.mv (.s 3)), c0 11 (.len 1 (.s 10)), c0 12 (.bin .sub .any (.s 11) (.c (ki .i64 1))), c0 13 (.ixp 1 (.s 9) (.s 12)), c0 14 (.ldx true false 1 (.s 13)), c0 2 (.tk (.s 14))] [2]) (.ret))))
theorem fun23 : Fun Try.prog cfg 23 15 cd23 [.s 2] := ⟨rfl, Try.f23, _, Try.func23, rfl, rfl, by kernel_rfl, by kernel_rfl⟩
@[go_sem] theorem ok23 : calleeOK Try.prog 23 = true := by kernel_rfl
@[go_sem] theorem ex23 : (cfg.ext 23).isSome = false := rfl
def cd25 : Cd := .seq (R [cb 4 (.tk (.c (kb false)))] [0, 1]) (.seq (R [c0 10 (.mv (.s 0)), c0 11 (.call none (.c (kf 43)) [(.s 10)]), c0 9 (.tk (.s 11)), c0 12 (.exh (.s 9)), cb 13 (.ext (.s 9) 1), c0 5 (.tk (.s 12)), cb 6 (.tk (.s 13))] [1, 5, 6]) (.seq (R [c0 15 (.mv (.s 1)), c0 16 (.call none (.c (kf 43)) [(.s 15)]), c0 14 (.tk (.s 16)), c0 17 (.exh (.s 14)), cb 18 (.ext (.s 14) 1), c0 7 (.tk (.s 17)), cb 8 (.tk (.s 18))] [5, 6, 7, 8]) (.seq (R [cb 19 (.mv (.s 6)), cb 20 (.mv (.s 19)), ch 21 20 true (.mv (.s 8)), cb 22 (.pick (.s 20) (.s 21) (.c (kb false))), cb 23 (.mv (.s 22)), cg 24 23 true (.mv (.s 5)), cg 25 23 true (.len 1 (.s 24)), cg 26 23 true (.mv (.s 7)), cg 27 23 true (.len 1 (.s 26)), ch 28 23 true (.bin .lss .any (.s 25) (.s 27)), cb 29 (.pick (.s 23) (.s 28) (.c (kb false))), cb 30 (.mv (.s 29)), cg 31 30 true (.mv (.s 5)), cg 32 30 true (.mv (.s 7)), cg 33 30 true (.mv (.s 5)), cg 34 30 true (.len 1 (.s 33)), cg 35 30 true (.sl 1 (.s 32) none (some (.s 34))), ch 36 30 true (.call none (.c (kf 46)) [(.s 31), (.s 35)]), cb 37 (.pick (.s 30) (.s 36) (.c (kb false))), cb 4 (.tk (.s 37))] [4]) (.ret))))
theorem fun25 : Fun Try.prog cfg 25 38 cd25 [.s 4] := ⟨rfl, Try.f25, _, Try.func25, rfl, rfl, by kernel_rfl, by kernel_rfl⟩
@[go_sem] theorem ok25 : calleeOK Try.prog 25 = true := by kernel_rfl
@[go_sem] theorem ex25 : (cfg.ext 25).isSome = false := rfl
def cd27 : Cd := .seq (R [cb 4 (.tk (.c (kb false)))] [0, 1]) (.seq (R [c0 10 (.mv (.s 0)), c0 11 (.call none (.c (kf 43)) [(.s 10)]), c0 9 (.tk (.s 11)), c0 12 (.exh (.s 9)), cb 13 (.ext (.s 9) 1), c0 5 (.tk (.s 12)), cb 6 (.tk (.s 13))] [1, 5, 6]) (.seq (R [c0 15 (.mv (.s 1)), c0 16 (.call none (.c (kf 43)) [(.s 15)]), c0 14 (.tk (.s 16)), c0 17 (.exh (.s 14)), cb 18 (.ext (.s 14) 1), c0 7 (.tk (.s 17)), cb 8 (.tk (.s 18))] [5, 6, 7, 8]) (.seq (R [cb 19 (.mv (.s 6)), cb 20 (.mv (.s 19)), ch 21 20 true (.mv (.s 8)), cb 22 (.pick (.s 20) (.s 21) (.c (kb false))), cb 23 (.mv (.s 22)), cg 24 23 true (.mv (.s 5)), cg 25 23 true (.mv (.s 7)), cg 26 23 true (.call none (.c (kf 47)) [(.s 24), (.s 25), (.c (kf 48))]), ch 27 23 true (.bin .lss .any (.s 26) (.c (ki .i64 0))), cb 28 (.pick (.s 23) (.s 27) (.c (kb false))), cb 4 (.tk (.s 28))] [4]) (.ret))))
theorem fun27 : Fun Try.prog cfg 27 29 cd27 [.s 4] := ⟨rfl, Try.f27, _, Try.func27, rfl, rfl, by kernel_rfl, by kernel_rfl⟩
@[go_sem] theorem ok27 : calleeOK Try.prog 27 = true := by kernel_rfl
@[go_sem] theorem ex27 : (cfg.ext 27).isSome = false := rfl
variable {h : DHeap}
def depthP (p : Str) : Int := match parse p with
  | some l => l.length
  | none => -1
def namesP (p : Str) : List Str := (parse p).getD []
def parentP (p : Str) : Str := if namesP p = [] then [] else pathOf (namesP p).dropLast
def lastP (p : Str) : Str := (namesP p).getLast?.getD []
def belowP (p q : Str) : Bool := match parse p, parse q with
  | some a, some b => decide (a.length < b.length) && decide (a = b.take a.length)
  | _, _ => false
def lessP (p q : Str) : Bool := match parse p, parse q with
  | some a, some b => decide (cmpF Lib.compareBytes a b < 0)
  | _, _ => false
theorem names_ok (p : Str) : okL (namesP p) = true := by
  unfold namesP
  cases h : parse p with
  | none => rfl
  | some l => exact (parse_some h).1
theorem names_le (p : Str) : (namesP p).length ≤ 8 := (okL_names (names_ok p)).1
theorem okL_sub {l m : List Str} (h : okL l = true) (hm : m.length ≤ l.length) (hs : ∀ s ∈ m, s ∈ l) : okL m = true := by
  have := okL_names h
  simp only [okL, Bool.and_eq_true, decide_eq_true_eq, List.all_eq_true]
  exact ⟨by omega, fun s hsm => this.2 s (hs s hsm)⟩
theorem join_ok {l : List Str} (h : okL l = true) : l.length ≤ 1048576 ∧ (Lib.join l [47]).length ≤ 1099511627776 := by
  have h1 := okL_names h
  have := join_le l fun s hs => nameOK_le (h1.2 s hs)
  omega
@[go_sem] theorem splitV_eq (p : Str) : splitV p = .tup [vts true (namesP p), vb (parse p).isSome] := by
  unfold splitV namesP
  cases parse p <;> rfl

theorem valid_lim (p : Str) (hp : p.length ≤ 1099511627776) : lim Try.prog cfg 14 [vs p] h = some (vb (parse p).isSome, h) := by
  refine lim_funp fun14 rfl (by simp) rfl rfl ?_
  delta cd14
  have hx := split_lim (h := []) p hp
  simp -implicitDefEqProofs -dsimp only [go_sem, hx]
  exact ⟨fun h1 => by rw [h1], fun h1 => by rw [h1]⟩
theorem names_lim (p : Str) (hp : p.length ≤ 1099511627776) : lim Try.prog cfg 17 [vs p] h = some (vts true (namesP p), h) := by
  refine lim_funp fun17 rfl (by simp) rfl (by simp [heapFree, free_ts]) ?_
  delta cd17
  have hx := split_lim (h := []) p hp
  simp -implicitDefEqProofs -dsimp only [go_sem, hx]
theorem depth_lim (p : Str) (hp : p.length ≤ 1099511627776) : lim Try.prog cfg 19 [vs p] h = some (vi (depthP p), h) := by
  refine lim_funp fun19 rfl (by simp) rfl rfl ?_
  delta cd19
  have hx := split_lim (h := []) p hp
  simp -implicitDefEqProofs -dsimp only [go_sem, hx]
  unfold depthP namesP
  cases parse p <;> simp
theorem parent_lim (p : Str) (hp : p.length ≤ 1099511627776) : lim Try.prog cfg 21 [vs p] h = some (vs (parentP p), h) := by
  refine lim_funp fun21 rfl (by simp) rfl rfl ?_
  delta cd21
  have hx := names_lim (h := []) p hp
  have hn := names_le p
  by_cases h0 : namesP p = []
  · simp -implicitDefEqProofs -dsimp only [go_sem, hx, h0]
    simp [parentP, h0]
  · have hpos := List.length_pos_iff.2 h0
    have hw := wrap_pred hpos (by omega)
    have hok := okL_sub (m := (namesP p).take ((namesP p).length - 1)) (names_ok p) (by simp) (fun s hs => List.mem_of_mem_take hs)
    have hj := join_lim (h := []) false _ [47] (join_ok hok).1 (join_ok hok).2
    simp -implicitDefEqProofs -dsimp only [go_sem, hx, hw, List.drop_zero, hj]
    refine ⟨fun h1 => by omega, fun h1 => ⟨by omega, by omega, ?_, ?_⟩⟩
    · have := (join_ok hok).2
      simp; omega
    · simp [parentP, h0, pathOf, List.dropLast_eq_take]
theorem last_lim (p : Str) (hp : p.length ≤ 1099511627776) : lim Try.prog cfg 23 [vs p] h = some (vs (lastP p), h) := by
  refine lim_funp fun23 rfl (by simp) rfl rfl ?_
  delta cd23
  have hx := names_lim (h := []) p hp
  have hn := names_le p
  by_cases h0 : namesP p = []
  · simp -implicitDefEqProofs -dsimp only [go_sem, hx, h0]
    simp [lastP, h0]
  · have hpos := List.length_pos_iff.2 h0
    have hw := wrap_pred hpos (by omega)
    simp -implicitDefEqProofs -dsimp only [go_sem, hx, hw]
    refine ⟨fun h1 => by omega, fun h1 => ⟨by omega, ?_⟩⟩
    simp [lastP, List.getLast?_eq_getElem?, List.getElem?_eq_getElem (show (namesP p).length - 1 < (namesP p).length by omega)]
theorem below_lim (p q : Str) (hp : p.length ≤ 1099511627776) (hq : q.length ≤ 1099511627776) : lim Try.prog cfg 25 [vs p, vs q] h = some (vb (belowP p q), h) := by
  refine lim_funp fun25 rfl (by simp) rfl rfl ?_
  delta cd25
  have hx := split_lim (h := []) p hp
  have hy := split_lim (h := []) q hq
  have he := equal_lim (h := []) false false (namesP p) ((namesP q).take (namesP p).length) (by have := names_le p; omega)
  cases h1 : parse p with
  | none =>
    have hz : (parse p).isSome = false := by rw [h1]; rfl
    simp -implicitDefEqProofs -dsimp only [go_sem, hx, hy, he, hz]
    simp [belowP, h1]
  | some a =>
    have hz : (parse p).isSome = true := by rw [h1]; rfl
    cases h2 : parse q with
    | none =>
      have hz2 : (parse q).isSome = false := by rw [h2]; rfl
      simp -implicitDefEqProofs -dsimp only [go_sem, hx, hy, he, hz, hz2]
      simp [belowP, h1, h2]
    | some b =>
      have hz2 : (parse q).isSome = true := by rw [h2]; rfl
      simp -implicitDefEqProofs -dsimp only [go_sem, hx, hy, he, hz, hz2, List.drop_zero]
      have n1 : namesP p = a := by simp [namesP, h1]
      have n2 : namesP q = b := by simp [namesP, h2]
      simp only [belowP, h1, h2, n1, n2]
      refine ⟨fun h3 => ⟨by omega, by omega, fun h4 => ?_, fun h4 => ?_⟩, fun h3 => ?_⟩
      · rw [decide_eq_true (by omega : a.length < b.length), decide_eq_true h4]; rfl
      · rw [decide_eq_false h4, Bool.and_false]
      · rw [decide_eq_false (by omega : ¬ a.length < b.length)]; rfl
theorem less_lim (p q : Str) (hp : p.length ≤ 1099511627776) (hq : q.length ≤ 1099511627776) : lim Try.prog cfg 27 [vs p, vs q] h = some (vb (lessP p q), h) := by
  refine lim_funp fun27 rfl (by simp) rfl rfl ?_
  delta cd27
  have hx := split_lim (h := []) p hp
  have hy := split_lim (h := []) q hq
  have he := compareFunc_lim (h := []) false false (namesP p) (namesP q) 48 [] [] Lib.compareBytes ok48 rfl rfl (fun s u => compare_lim s u) (by have := names_le p; omega)
  cases h1 : parse p with
  | none =>
    have hz : (parse p).isSome = false := by rw [h1]; rfl
    simp -implicitDefEqProofs -dsimp only [go_sem, hx, hy, he, hz]
    simp [lessP, h1]
  | some a =>
    have hz : (parse p).isSome = true := by rw [h1]; rfl
    cases h2 : parse q with
    | none =>
      have hz2 : (parse q).isSome = false := by rw [h2]; rfl
      simp -implicitDefEqProofs -dsimp only [go_sem, hx, hy, he, hz, hz2]
      simp [lessP, h1, h2]
    | some b =>
      have hz2 : (parse q).isSome = true := by rw [h2]; rfl
      simp -implicitDefEqProofs -dsimp only [go_sem, hx, hy, he, hz, hz2]
      have n1 : namesP p = a := by simp [namesP, h1]
      have n2 : namesP q = b := by simp [namesP, h2]
      simp only [lessP, h1, h2, n1, n2]
      exact ⟨fun h3 => by rw [decide_eq_true h3], fun h3 => by rw [decide_eq_false h3]⟩
end Go.DS

/-
  Walks: the reference's functions of paths.
-/
namespace Go.DS
open Go Go.Proofs
set_option maxRecDepth 100000
set_option linter.unusedVariables false
set_option linter.unusedSimpArgs false
def cd52 : Cd := .seq (R [cb 2 (.tk (.c (kb false)))] [0]) (.seq (.seq (R [c0 3 (.tk (.c (ki .i64 0)))] [0, 3]) (.block 0 (LP [0, 3] (.seq (.seq (R [c0 5 (.mv (.s 3)), c0 6 (.mv (.s 0)), c0 7 (.len 0 (.s 6)), cb 8 (.bin .lss .any (.s 5) (.s 7))] [0, 3, 8]) (.ite (.s 8) (.skip) (.exit 0))) (.seq (.block 1 (.seq (R [c0 11 (.mv (.s 0)), c0 12 (.mv (.s 3)), c0 13 (.ixs (.s 11) (.s 12)), c0 4 (.tk (.s 13))] [0, 3, 4]) (.seq (R [c0 14 (.mv (.s 4)), cb 15 (.bin .geq .any (.s 14) (.c (ki .u8 97))), cb 16 (.mv (.s 15)), cg 17 16 true (.mv (.s 4)), ch 18 16 true (.bin .leq .any (.s 17) (.c (ki .u8 122))), cb 19 (.pick (.s 16) (.s 18) (.c (kb false))), cb 20 (.mv (.s 19)), cg 21 20 false (.mv (.s 4)), ch 22 20 false (.bin .geq .any (.s 21) (.c (ki .u8 48))), ch 23 20 false (.mv (.s 22)), cg 24 23 true (.mv (.s 4)), ch 25 23 true (.bin .leq .any (.s 24) (.c (ki .u8 57))), ch 26 20 false (.pick (.s 23) (.s 25) (.c (kb false))), cb 27 (.pick (.s 20) (.c (kb true)) (.s 26)), cb 28 (.mv (.s 27)), cg 29 28 false (.mv (.s 4)), ch 30 28 false (.bin .eql .any (.s 29) (.c (ki .u8 45))), cb 31 (.pick (.s 28) (.c (kb true)) (.s 30)), cb 32 (.mv (.s 31)), cg 33 32 false (.mv (.s 4)), ch 34 32 false (.bin .eql .any (.s 33) (.c (ki .u8 95))), cb 35 (.pick (.s 32) (.c (kb true)) (.s 34)), cb 36 (.un .not (.s 35))] [0, 3, 36]) (.ite (.s 36) (.seq (R [cb 2 (.tk (.c (kb false)))] [2]) (.ret)) (.skip))))) (R [c0 9 (.mv (.s 3)), c0 10 (.bin .add .any (.s 9) (.c (ki .i64 1))), c0 3 (.tk (.s 10))] [0, 3])))))) (.seq (R [c0 37 (.mv (.s 0)), c0 38 (.len 0 (.s 37)), cb 39 (.bin .geq .any (.s 38) (.c (ki .i64 1))), cb 40 (.mv (.s 39)), cg 41 40 true (.mv (.s 0)), cg 42 40 true (.len 0 (.s 41)), ch 43 40 true (.bin .leq .any (.s 42) (.c (ki .i64 16))), cb 44 (.pick (.s 40) (.s 43) (.c (kb false))), cb 2 (.tk (.s 44))] [2]) (.ret)))
theorem fun52 : Fun Try.prog cfg 52 45 cd52 [.s 2] := ⟨rfl, Try.f52, _, Try.func52, rfl, rfl, by kernel_rfl, by kernel_rfl⟩
@[go_sem] theorem ok52 : calleeOK Try.prog 52 = true := by kernel_rfl
@[go_sem] theorem ex52 : (cfg.ext 52).isSome = false := rfl
def cd30 : Cd := .seq (R [c0 2 (.tk (.c (ks []))), c0 3 (.tk (.c (ki .i64 0)))] [0]) (.seq (.seq (R [c0 6 (.mv (.s 0)), c0 7 (.len 1 (.s 6)), cb 8 (.bin .gtr .any (.s 7) (.c (ki .i64 8)))] [0, 8]) (.ite (.s 8) (.seq (R [c0 2 (.tk (.c (ks []))), c0 3 (.tk (.c (ki .i64 1)))] [2, 3]) (.ret)) (.skip))) (.seq (R [c0 4 (.tk (.c (ks [])))] [0, 4]) (.seq (.seq (R [c0 5 (.tk (.c (ki .i64 0)))] [0, 4, 5]) (.block 0 (LP [0, 4, 5] (.seq (.seq (R [c0 9 (.mv (.s 5)), c0 10 (.mv (.s 0)), c0 11 (.len 1 (.s 10)), cb 12 (.bin .lss .any (.s 9) (.s 11))] [0, 4, 5, 12]) (.ite (.s 12) (.skip) (.exit 0))) (.seq (.block 1 (.seq (.seq (R [c0 15 (.mv (.s 0)), c0 16 (.mv (.s 5)), c0 17 (.ixp 1 (.s 15) (.s 16)), c0 18 (.ld false 1 (.s 17)), cb 19 (.call none (.c (kf 52)) [(.s 18)]), cb 20 (.un .not (.s 19))] [0, 4, 5, 20]) (.ite (.s 20) (.seq (R [c0 2 (.tk (.c (ks []))), c0 3 (.tk (.c (ki .i64 1)))] [2, 3]) (.ret)) (.skip))) (R [c0 21 (.mv (.s 4)), c0 22 (.bin .add .any (.s 21) (.c (ks [47]))), c0 23 (.mv (.s 0)), c0 24 (.mv (.s 5)), c0 25 (.ixp 1 (.s 23) (.s 24)), c0 26 (.ld false 1 (.s 25)), c0 27 (.bin .add .any (.s 22) (.s 26)), c0 4 (.tk (.s 27))] [0, 4, 5]))) (R [c0 13 (.mv (.s 5)), c0 14 (.bin .add .any (.s 13) (.c (ki .i64 1))), c0 5 (.tk (.s 14))] [0, 4, 5])))))) (.seq (.seq (R [c0 28 (.mv (.s 4)), cb 29 (.bin .eql .any (.s 28) (.c (ks [])))] [4, 29]) (.ite (.s 29) (R [c0 4 (.tk (.c (ks [47])))] [4]) (.skip))) (.seq (R [c0 30 (.tk (.s 4)), c0 2 (.tk (.s 30)), c0 3 (.tk (.c (ki .i64 0)))] [2, 3]) (.ret))))))
theorem fun30 : Fun Try.prog cfg 30 31 cd30 [.s 2, .s 3] := ⟨rfl, Try.f30, _, Try.func30, rfl, rfl, by kernel_rfl, by kernel_rfl⟩
@[go_sem] theorem ok30 : calleeOK Try.prog 30 = true := by kernel_rfl
@[go_sem] theorem ex30 : (cfg.ext 30).isSome = false := rfl
def cd44 : Cd := .seq (R [c0 2 (.tk (.c (kn 1)))] [0]) (.seq (R [c0 3 (.tk (.c (kn 1)))] [0, 3]) (.seq (R [c0 4 (.tk (.c (ks [])))] [0, 3, 4]) (.seq (.seq (R [c0 5 (.tk (.c (ki .i64 1)))] [0, 3, 4, 5]) (.block 0 (LP [0, 3, 4, 5] (.seq (.seq (R [c0 6 (.mv (.s 5)), c0 7 (.mv (.s 0)), c0 8 (.len 0 (.s 7)), cb 9 (.bin .lss .any (.s 6) (.s 8))] [0, 3, 4, 5, 9]) (.ite (.s 9) (.skip) (.exit 0))) (.seq (.block 1 (.seq (R [c0 12 (.mv (.s 0)), c0 13 (.mv (.s 5)), c0 14 (.ixs (.s 12) (.s 13)), cb 15 (.bin .eql .any (.s 14) (.c (ki .u8 47)))] [0, 3, 4, 5, 15]) (.ite (.s 15) (.seq (R [c0 16 (.tk (.s 3)), c0 17 (.mv (.s 4)), c0 18 (.bsl 1 [(.s 17)]), c0 19 (.app 1 18 true (.s 16) (.s 18)), c0 3 (.tk (.s 19))] [0, 3, 5]) (R [c0 4 (.tk (.c (ks [])))] [0, 3, 4, 5])) (R [c0 20 (.mv (.s 4)), c0 21 (.mv (.s 0)), c0 22 (.mv (.s 5)), c0 23 (.mv (.s 5)), c0 24 (.bin .add .any (.s 23) (.c (ki .i64 1))), c0 25 (.ss (.s 21) (some (.s 22)) (some (.s 24))), c0 26 (.bin .add .any (.s 20) (.s 25)), c0 4 (.tk (.s 26))] [0, 3, 4, 5])))) (R [c0 10 (.mv (.s 5)), c0 11 (.bin .add .any (.s 10) (.c (ki .i64 1))), c0 5 (.tk (.s 11))] [0, 3, 4, 5])))))) (.seq (.seq (R [c0 27 (.mv (.s 0)), cb 28 (.bin .neq .any (.s 27) (.c (ks [47])))] [3, 4, 28]) (.ite (.s 28) (R [c0 29 (.tk (.s 3)), c0 30 (.mv (.s 4)), c0 31 (.bsl 1 [(.s 30)]), c0 32 (.app 1 18 true (.s 29) (.s 31)), c0 3 (.tk (.s 32))] [3]) (.skip))) (.seq (R [c0 33 (.tk (.s 3)), c0 2 (.tk (.s 33))] [2]) (.ret))))))
theorem fun44 : Fun Try.prog cfg 44 34 cd44 [.s 2] := ⟨rfl, Try.f44, _, Try.func44, rfl, rfl, by kernel_rfl, by kernel_rfl⟩
@[go_sem] theorem ok44 : calleeOK Try.prog 44 = true := by kernel_rfl
@[go_sem] theorem ex44 : (cfg.ext 44).isSome = false := rfl
def cd15 : Cd := .seq (R [cb 2 (.tk (.c (kb false)))] [0]) (.seq (.seq (R [c0 5 (.mv (.s 0)), c0 6 (.len 0 (.s 5)), cb 7 (.bin .lss .any (.s 6) (.c (ki .i64 1))), cb 8 (.mv (.s 7)), cg 9 8 false (.mv (.s 0)), cg 10 8 false (.len 0 (.s 9)), ch 11 8 false (.bin .gtr .any (.s 10) (.c (ki .i64 200))), cb 12 (.pick (.s 8) (.c (kb true)) (.s 11))] [0, 12]) (.ite (.s 12) (.seq (R [cb 2 (.tk (.c (kb false)))] [2]) (.ret)) (.skip))) (.seq (R [c0 14 (.mv (.s 0)), c0 15 (.call none (.c (kf 44)) [(.s 14)]), c0 16 (.call none (.c (kf 30)) [(.s 15)]), c0 13 (.tk (.s 16)), c0 17 (.exh (.s 13)), c0 18 (.ext (.s 13) 1), c0 3 (.tk (.s 17)), c0 4 (.tk (.s 18))] [0, 3, 4]) (.seq (R [c0 19 (.mv (.s 4)), cb 20 (.bin .eql .any (.s 19) (.c (ki .i64 0))), cb 21 (.mv (.s 20)), cg 22 21 true (.mv (.s 3)), cg 23 21 true (.mv (.s 0)), ch 24 21 true (.bin .eql .any (.s 22) (.s 23)), cb 25 (.pick (.s 21) (.s 24) (.c (kb false))), cb 2 (.tk (.s 25))] [2]) (.ret))))
theorem fun15 : Fun Try.prog cfg 15 26 cd15 [.s 2] := ⟨rfl, Try.f15, _, Try.func15, rfl, rfl, by kernel_rfl, by kernel_rfl⟩
@[go_sem] theorem ok15 : calleeOK Try.prog 15 = true := by kernel_rfl
@[go_sem] theorem ex15 : (cfg.ext 15).isSome = false := rfl
def cd18 : Cd := .seq (R [c0 2 (.tk (.c (kn 1)))] [0]) (.seq (.seq (R [c0 3 (.mv (.s 0)), cb 4 (.call none (.c (kf 15)) [(.s 3)]), cb 5 (.un .not (.s 4))] [0, 5]) (.ite (.s 5) (.seq (R [c0 2 (.tk (.c (kn 1)))] [2]) (.ret)) (.skip))) (.seq (R [c0 6 (.mv (.s 0)), c0 7 (.call none (.c (kf 44)) [(.s 6)]), c0 2 (.tk (.s 7))] [2]) (.ret)))
theorem fun18 : Fun Try.prog cfg 18 8 cd18 [.s 2] := ⟨rfl, Try.f18, _, Try.func18, rfl, rfl, by kernel_rfl, by kernel_rfl⟩
@[go_sem] theorem ok18 : calleeOK Try.prog 18 = true := by kernel_rfl
@[go_sem] theorem ex18 : (cfg.ext 18).isSome = false := rfl
def cd20 : Cd := .seq (R [c0 2 (.tk (.c (ki .i64 0)))] [0]) (.seq (.seq (R [c0 3 (.mv (.s 0)), cb 4 (.call none (.c (kf 15)) [(.s 3)]), cb 5 (.un .not (.s 4))] [0, 5]) (.ite (.s 5) (.seq (R [c0 2 (.tk (.c (ki .i64 (-1))))] [2]) (.ret)) (.skip))) (.seq (R [c0 6 (.mv (.s 0)), c0 7 (.call none (.c (kf 44)) [(.s 6)]), c0 8 (.len 1 (.s 7)), c0 2 (.tk (.s 8))] [2]) (.ret)))
theorem fun20 : Fun Try.prog cfg 20 9 cd20 [.s 2] := ⟨rfl, Try.f20, _, Try.func20, rfl, rfl, by kernel_rfl, by kernel_rfl⟩
@[go_sem] theorem ok20 : calleeOK Try.prog 20 = true := by kernel_rfl
@[go_sem] theorem ex20 : (cfg.ext 20).isSome = false := rfl
def cd22 : Cd := .seq (R [c0 2 (.tk (.c (ks [])))] [0]) (.seq (.seq (R [c0 6 (.mv (.s 0)), c0 7 (.call none (.c (kf 20)) [(.s 6)]), cb 8 (.bin .lss .any (.s 7) (.c (ki .i64 1)))] [0, 8]) (.ite (.s 8) (.seq (R [c0 2 (.tk (.c (ks [])))] [2]) (.ret)) (.skip))) (.seq (R [c0 9 (.mv (.s 0)), c0 10 (.call none (.c (kf 44)) [(.s 9)]), c0 3 (.tk (.s 10))] [3]) (.seq (R [c0 12 (.mv (.s 3)), c0 13 (.mv (.s 3)), c0 14 (.len 1 (.s 13)), c0 15 (.bin .sub .any (.s 14) (.c (ki .i64 1))), c0 16 (.sl 1 (.s 12) none (some (.s 15))), c0 17 (.call none (.c (kf 30)) [(.s 16)]), c0 11 (.tk (.s 17)), c0 18 (.exh (.s 11)), c0 19 (.ext (.s 11) 1), c0 4 (.tk (.s 18)), c0 5 (.tk (.s 19))] [4]) (.seq (R [c0 20 (.tk (.s 4)), c0 2 (.tk (.s 20))] [2]) (.ret)))))
theorem fun22 : Fun Try.prog cfg 22 21 cd22 [.s 2] := ⟨rfl, Try.f22, _, Try.func22, rfl, rfl, by kernel_rfl, by kernel_rfl⟩
@[go_sem] theorem ok22 : calleeOK Try.prog 22 = true := by kernel_rfl
@[go_sem] theorem ex22 : (cfg.ext 22).isSome = false := rfl
def cd24 : Cd := .seq (R [c0 2 (.tk (.c (ks [])))] [0]) (.seq (.seq (R [c0 4 (.mv (.s 0)), c0 5 (.call none (.c (kf 20)) [(.s 4)]), cb 6 (.bin .lss .any (.s 5) (.c (ki .i64 1)))] [0, 6]) (.ite (.s 6) (.seq (R [c0 2 (.tk (.c (ks [])))] [2]) (.ret)) (.skip))) (.seq (R [c0 7 (.mv (.s 0)), c0 8 (.call none (.c (kf 44)) [(.s 7)]), c0 3 (.tk (.s 8))] [3]) (.seq (R [c0 9 (.mv (.s 3)), c0 10 (.mv (.s 3)), c0 11 (.len 1 (.s 10)), c0 12 (.bin .sub .any (.s 11) (.c (ki .i64 1))), c0 13 (.ixp 1 (.s 9) (.s 12)), c0 14 (.ldx true false 1 (.s 13)), c0 2 (.tk (.s 14))] [2]) (.ret))))
theorem fun24 : Fun Try.prog cfg 24 15 cd24 [.s 2] := ⟨rfl, Try.f24, _, Try.func24, rfl, rfl, by kernel_rfl, by kernel_rfl⟩
@[go_sem] theorem ok24 : calleeOK Try.prog 24 = true := by kernel_rfl
@[go_sem] theorem ex24 : (cfg.ext 24).isSome = false := rfl
def cd26 : Cd := .seq (R [cb 4 (.tk (.c (kb false)))] [0, 1]) (.seq (.seq (R [c0 8 (.mv (.s 0)), cb 9 (.call none (.c (kf 15)) [(.s 8)]), cb 10 (.un .not (.s 9)), cb 11 (.mv (.s 10)), cg 12 11 false (.mv (.s 1)), ch 13 11 false (.call none (.c (kf 15)) [(.s 12)]), ch 14 11 false (.un .not (.s 13)), cb 15 (.pick (.s 11) (.c (kb true)) (.s 14))] [0, 1, 15]) (.ite (.s 15) (.seq (R [cb 4 (.tk (.c (kb false)))] [4]) (.ret)) (.skip))) (.seq (R [c0 16 (.mv (.s 0)), c0 17 (.call none (.c (kf 44)) [(.s 16)]), c0 5 (.tk (.s 17))] [1, 5]) (.seq (R [c0 18 (.mv (.s 1)), c0 19 (.call none (.c (kf 44)) [(.s 18)]), c0 6 (.tk (.s 19))] [5, 6]) (.seq (.seq (R [c0 20 (.mv (.s 6)), c0 21 (.len 1 (.s 20)), c0 22 (.mv (.s 5)), c0 23 (.len 1 (.s 22)), cb 24 (.bin .leq .any (.s 21) (.s 23))] [5, 6, 24]) (.ite (.s 24) (.seq (R [cb 4 (.tk (.c (kb false)))] [4]) (.ret)) (.skip))) (.seq (.seq (R [c0 7 (.tk (.c (ki .i64 0)))] [5, 6, 7]) (.block 0 (LP [5, 6, 7] (.seq (.seq (R [c0 25 (.mv (.s 7)), c0 26 (.mv (.s 5)), c0 27 (.len 1 (.s 26)), cb 28 (.bin .lss .any (.s 25) (.s 27))] [5, 6, 7, 28]) (.ite (.s 28) (.skip) (.exit 0))) (.seq (.block 1 (.seq (RD [cd (some 31) false none (.mv (.s 5)) false false [5], cd (some 32) false none (.mv (.s 7)) false false [7], cd (some 33) false none (.ixp 1 (.s 31) (.s 32)) false false [31, 32], cd (some 34) false none (.ld false 1 (.s 33)) false false [33], cd (some 35) false none (.mv (.s 6)) false false [6], cd (some 36) false none (.mv (.s 7)) false false [7], cd (some 37) false none (.ixp 1 (.s 35) (.s 36)) false false [35, 36], cd (some 38) false none (.ld false 1 (.s 37)) false false [37], cd (some 39) true none (.bin .neq .any (.s 34) (.s 38)) false false [34, 38]] [5, 6, 7, 39] []) (.ite (.s 39) (.seq (R [cb 4 (.tk (.c (kb false)))] [4]) (.ret)) (.skip)))) (R [c0 29 (.mv (.s 7)), c0 30 (.bin .add .any (.s 29) (.c (ki .i64 1))), c0 7 (.tk (.s 30))] [5, 6, 7])))))) (.seq (R [cb 4 (.tk (.c (kb true)))] [4]) (.ret)))))))
theorem fun26 : Fun Try.prog cfg 26 40 cd26 [.s 4] := ⟨rfl, Try.f26, _, Try.func26, rfl, rfl, by kernel_rfl, by kernel_rfl⟩
@[go_sem] theorem ok26 : calleeOK Try.prog 26 = true := by kernel_rfl
@[go_sem] theorem ex26 : (cfg.ext 26).isSome = false := rfl
def cd28 : Cd := .seq (R [cb 4 (.mv (.c (kb false)))] [0, 1]) (.seq (.seq (R [c0 8 (.mv (.s 0)), cb 9 (.call none (.c (kf 15)) [(.s 8)]), cb 10 (.un .not (.s 9)), cb 11 (.mv (.s 10)), cg 12 11 false (.mv (.s 1)), ch 13 11 false (.call none (.c (kf 15)) [(.s 12)]), ch 14 11 false (.un .not (.s 13)), cb 15 (.pick (.s 11) (.c (kb true)) (.s 14))] [0, 1, 15]) (.ite (.s 15) (.seq (R [cb 4 (.mv (.c (kb false)))] [4]) (.ret)) (.skip))) (.seq (R [c0 16 (.mv (.s 0)), c0 17 (.call none (.c (kf 44)) [(.s 16)]), c0 5 (.tk (.s 17))] [1, 5]) (.seq (R [c0 18 (.mv (.s 1)), c0 19 (.call none (.c (kf 44)) [(.s 18)]), c0 6 (.tk (.s 19))] [5, 6]) (.seq (.seq (R [c0 7 (.tk (.c (ki .i64 0)))] [5, 6, 7]) (.block 0 (LP [5, 6, 7] (.seq (.seq (R [c0 20 (.mv (.s 7)), c0 21 (.mv (.s 5)), c0 22 (.len 1 (.s 21)), cb 23 (.bin .lss .any (.s 20) (.s 22)), cb 24 (.mv (.s 23)), cg 25 24 true (.mv (.s 7)), cg 26 24 true (.mv (.s 6)), cg 27 24 true (.len 1 (.s 26)), ch 28 24 true (.bin .lss .any (.s 25) (.s 27)), cb 29 (.pick (.s 24) (.s 28) (.c (kb false)))] [5, 6, 7, 29]) (.ite (.s 29) (.skip) (.exit 0))) (.seq (.block 1 (.seq (RD [cd (some 32) false none (.mv (.s 5)) false false [5], cd (some 33) false none (.mv (.s 7)) false false [7], cd (some 34) false none (.ixp 1 (.s 32) (.s 33)) false false [32, 33], cd (some 35) false none (.ld false 1 (.s 34)) false false [34], cd (some 36) false none (.mv (.s 6)) false false [6], cd (some 37) false none (.mv (.s 7)) false false [7], cd (some 38) false none (.ixp 1 (.s 36) (.s 37)) false false [36, 37], cd (some 39) false none (.ld false 1 (.s 38)) false false [38], cd (some 40) true none (.bin .neq .any (.s 35) (.s 39)) false false [35, 39]] [5, 6, 7, 40] []) (.ite (.s 40) (.seq (RD [cd (some 41) false none (.mv (.s 5)) false false [5], cd (some 42) false none (.mv (.s 7)) false false [7], cd (some 43) false none (.ixp 1 (.s 41) (.s 42)) false false [41, 42], cd (some 44) false none (.ld false 1 (.s 43)) false false [43], cd (some 45) false none (.mv (.s 6)) false false [6], cd (some 46) false none (.mv (.s 7)) false false [7], cd (some 47) false none (.ixp 1 (.s 45) (.s 46)) false false [45, 46], cd (some 48) false none (.ld false 1 (.s 47)) false false [47], cd (some 49) true none (.bin .lss .any (.s 44) (.s 48)) false false [44, 48], cd (some 4) true none (.mv (.s 49)) false false [49]] [4] []) (.ret)) (.skip)))) (R [c0 30 (.mv (.s 7)), c0 31 (.bin .add .any (.s 30) (.c (ki .i64 1))), c0 7 (.tk (.s 31))] [5, 6, 7])))))) (.seq (R [c0 50 (.mv (.s 5)), c0 51 (.len 1 (.s 50)), c0 52 (.mv (.s 6)), c0 53 (.len 1 (.s 52)), cb 54 (.bin .lss .any (.s 51) (.s 53)), cb 4 (.mv (.s 54))] [4]) (.ret))))))
theorem fun28 : Fun Try.prog cfg 28 55 cd28 [.s 4] := ⟨rfl, Try.f28, _, Try.func28, rfl, rfl, by kernel_rfl, by kernel_rfl⟩
@[go_sem] theorem ok28 : calleeOK Try.prog 28 = true := by kernel_rfl
@[go_sem] theorem ex28 : (cfg.ext 28).isSome = false := rfl
variable {h : DHeap}
theorem rname_lim (s : Str) (hs : s.length ≤ 1099511627776) : lim Try.prog cfg 52 [vs s] h = some (vb (nameOK s), h) := by
  refine lim_funp fun52 rfl (by simp) rfl rfl ?_
  delta cd52
  simp -implicitDefEqProofs -dsimp only [go_sem]
  refine wp_for (σ := Nat) (fun k => [(0, vs s), (3, vi (k : Nat))]) (fun _ => []) (fun k => s.length - k) (fun k => k ≤ s.length ∧ (s.take k).all okc = true) 0 (by simp) rfl rfl ?_
  rintro k ⟨hk, hj⟩ N hN
  simp -implicitDefEqProofs -dsimp only [go_sem]
  refine ⟨fun h1 => ?_, fun h1 => ?_⟩
  · repeat' first | intro _ | refine And.intro ?_ ?_ | refine Exists.intro (by omega) ?_
    all_goals first
      | exact hN (k + 1) _ (by omega) ⟨by omega, take_all (by omega) hj ((okc_iff _).2 (by omega))⟩ (by simp -implicitDefEqProofs -dsimp only [go_sem, wrap_succ (show k < 9223372036854775807 by omega)])
      | (have := not_all (p := okc) (l := s) (k := k) (by omega) ((okc_not _).2 (by omega))
         simp [nameOK, this])
  · have : k = s.length := by omega
    subst this
    rw [List.take_length] at hj
    simp [nameOK, hj]
    grind

/-- Names, each with a slash ahead. -/
def flatP (l : List Str) : Str := l.flatMap fun s => 47 :: s
theorem flatP_join : ∀ (l : List Str), l ≠ [] → flatP l = 47 :: Lib.join l [47]
  | [], h => absurd rfl h
  | [a], _ => by simp [flatP, join_one]
  | a :: b :: l, _ => by
    have := flatP_join (b :: l) (by simp)
    rw [join_cons, ← this]
    simp [flatP]
theorem flatP_path {l : List Str} : (if flatP l = [] then [47] else flatP l) = pathOf l := by
  by_cases h : l = []
  · subst h; simp [flatP, pathOf, join_nil]
  · rw [flatP_join l h]; simp [pathOf]
theorem flatP_le (l : List Str) (h : ∀ s ∈ l, s.length ≤ 16) : (flatP l).length ≤ 17 * l.length := by
  induction l with
  | nil => simp [flatP]
  | cons a l ih =>
    have h1 := h a List.mem_cons_self
    have h2 := ih fun s hs => h s (List.mem_cons_of_mem _ hs)
    simp only [flatP, List.flatMap_cons, List.length_append, List.length_cons] at h2 ⊢
    omega
theorem rof_lim (own : Bool) (l : List Str) (hl : l.length ≤ 1048576) (hs : ∀ s ∈ l, s.length ≤ 1099511627776) : lim Try.prog cfg 30 [vts own l] h = some (ofV l, h) := by
  refine lim_funp fun30 rfl (by simp) (by simp [heapFree, free_ts]) (by unfold ofV; split <;> rfl) ?_
  delta cd30
  simp -implicitDefEqProofs -dsimp only [go_sem]
  refine ⟨fun h1 => ?_, fun h1 => ?_⟩
  · have : okL l = false := by simp [okL]; omega
    simp [ofV, this]
  refine wp_for (σ := Nat) (fun k => [(0, vts false l), (4, vs (flatP (l.take k))), (5, vi (k : Nat))]) (fun _ => []) (fun k => l.length - k) (fun k => k ≤ l.length ∧ ∀ s ∈ l.take k, nameOK s = true) 0 (by simp) rfl rfl ?_
  rintro k ⟨hk, hj⟩ N hN
  have hfl := flatP_le (l.take k) fun s hsk => nameOK_le (hj s hsk)
  rw [List.length_take] at hfl
  by_cases hkl : k < l.length
  · have hn := rname_lim (h := []) l[k] (hs _ (List.getElem_mem hkl))
    simp -implicitDefEqProofs -dsimp only [go_sem, hn]
    refine ⟨fun _ => ⟨hkl, fun h2 => ⟨?_, hkl, ?_, ?_⟩, fun h2 => ?_⟩, fun h2 => by omega⟩
    · omega
    · have := nameOK_le h2
      simp; omega
    · refine hN (k + 1) _ (by omega) ⟨by omega, ?_⟩ ?_
      · rw [List.take_succ_eq_append_getElem hkl]
        intro s hs'
        rcases List.mem_append.1 hs' with h3 | h3
        · exact hj s h3
        · simp at h3; subst h3; exact h2
      · have hf : flatP (l.take (k + 1)) = flatP (l.take k) ++ [47] ++ l[k] := by
          rw [List.take_succ_eq_append_getElem hkl]; simp only [flatP, List.flatMap_append, List.flatMap_cons, List.flatMap_nil, List.append_nil, List.append_assoc, List.cons_append, List.nil_append]
        simp -implicitDefEqProofs -dsimp only [go_sem, wrap_succ (show k < 9223372036854775807 by omega), hf]
    · have : okL l = false := by
        simp only [okL, Bool.and_eq_false_iff]
        right
        rw [← Bool.not_eq_true, List.all_eq_true]
        intro hall
        have := hall _ (List.getElem_mem hkl)
        rw [h2] at this
        cases this
      simp [ofV, this]
  · have hk' : k = l.length := by omega
    subst hk'
    rw [List.take_length] at hj
    have hok : okL l = true := by
      simp only [okL, Bool.and_eq_true, decide_eq_true_eq, List.all_eq_true]
      exact ⟨by omega, hj⟩
    have hp := flatP_path (l := l)
    simp -implicitDefEqProofs -dsimp only [go_sem]
    refine ⟨fun h2 => by omega, fun _ => ⟨fun h2 => ?_, fun h2 => ?_⟩⟩
    · rw [List.take_length] at h2
      rw [if_pos h2] at hp
      simp [ofV, hok, ← hp]
    · rw [List.take_length] at h2 ⊢
      rw [if_neg h2] at hp
      simp [ofV, hok, hp]

def glue (s : Str) : List Str → List Str
  | [] => []
  | x :: xs => (s ++ x) :: xs
theorem glue_nil (l : List Str) : glue [] l = l := by cases l <;> rfl
theorem sp_slash (r : Str) : sp (47 :: r) = [] :: sp r := by
  have h : aft (47 :: r) = 47 :: r := by simp [aft]
  rw [sp_cons h]; simp [seg]
theorem sp_char {c : UInt8} (hc : c ≠ 47) (r : Str) : sp (c :: r) = glue [c] (sp r) := by
  have h1 : aft (c :: r) = aft r := by simp [aft, hc]
  have h2 : seg (c :: r) = c :: seg r := by simp [seg, hc]
  rcases aft_cases r with h | ⟨r', h⟩
  · rw [sp_nil (h1.trans h), sp_nil h]; rfl
  · rw [sp_cons (h1.trans h), sp_cons h, h2]; rfl
theorem glue_glue (s : Str) (c : UInt8) (l : List Str) : glue s (glue [c] l) = glue (s ++ [c]) l := by
  cases l <;> simp [glue]
theorem cut_lim (p : Str) (hp : p.length ≤ 1048576) : lim Try.prog cfg 44 [vs p] h = some (vts true (cutP p), h) := by
  refine lim_funp fun44 rfl (by simp) rfl (by simp [heapFree, free_ts]) ?_
  delta cd44
  simp -implicitDefEqProofs -dsimp only [go_sem]
  refine wp_for (σ := Nat × List Str × Str) (fun x => [(0, vs p), (3, vts true x.2.1), (4, vs x.2.2), (5, vi (x.1 : Nat))]) (fun _ => []) (fun x => p.length - x.1)
    (fun x => 1 ≤ x.1 ∧ (x.1 ≤ p.length ∨ x.1 = 1) ∧ x.2.1.length ≤ x.1 ∧ x.2.2.length ≤ x.1 ∧ (x.1 = 1 → x.2.1 = []) ∧ sp (p.drop 1) = x.2.1 ++ glue x.2.2 (sp (p.drop x.1))) (1, [], []) (by simp [glue_nil]) rfl rfl ?_
  rintro ⟨i, l, s⟩ ⟨h1, h2, h3, h4, h7, h5⟩ N hN
  dsimp only at h1 h2 h3 h4 h5 h7
  by_cases hi : i < p.length
  · have hd : p.drop i = p[i] :: p.drop (i + 1) := List.drop_eq_getElem_cons hi
    have hx : (p.take (i + 1)).drop i = [p[i]] := by
      rw [List.take_succ_eq_append_getElem hi, List.drop_append_of_le_length (by simp; omega), List.drop_eq_nil_of_le (by simp; omega)]; rfl
    simp -implicitDefEqProofs -dsimp only [go_sem, wrap_succ (show i < 9223372036854775807 by omega), hx]
    refine ⟨fun _ => ⟨hi, fun h6 => ⟨?_, ?_⟩, fun h6 => ⟨by omega, by omega, by omega, by omega, by omega, ?_⟩⟩, fun h6 => by omega⟩
    · unfold maxLenD; omega
    · have h6' : p[i] = 47 := UInt8.toNat_inj.1 (by show p[i].toNat = 47; omega)
      refine hN (i + 1, l ++ [s], []) _ (by simp only; omega) ⟨by simp only; omega, by simp only; omega, by simp; omega, by simp, by simp only; omega, ?_⟩ (by simp -implicitDefEqProofs -dsimp only [go_sem])
      rw [h5, hd, h6', sp_slash, glue_nil]
      simp [glue]
    · have h6' : p[i] ≠ 47 := fun e => h6 (by rw [e]; rfl)
      refine hN (i + 1, l, s ++ [p[i]]) _ (by simp only; omega) ⟨by simp only; omega, by simp only; omega, by simp only; omega, by simp; omega, by simp only; omega, ?_⟩ (by simp -implicitDefEqProofs -dsimp only [go_sem])
      rw [h5, hd, sp_char h6', glue_glue]
  · have hd : p.drop i = [] := List.drop_eq_nil_of_le (by omega)
    have hsp : sp (p.drop 1) = l ++ [s] := by rw [h5, hd, sp_nil (by simp [aft])]; simp [glue]
    simp -implicitDefEqProofs -dsimp only [go_sem]
    refine ⟨fun h6 => by omega, fun _ => ⟨fun h6 => ?_, fun h6 => ⟨?_, ?_⟩⟩⟩
    · have : i = 1 := by rw [h6] at h2; simp at h2; omega
      simp [cutP, h6, h7 this]
    · unfold maxLenD; omega
    · simp only [cutP, if_neg h6, hsp]

theorem cut_sizes (p : Str) : (cutP p).length ≤ p.length + 1 ∧ ∀ s ∈ cutP p, s.length ≤ p.length := by
  unfold cutP
  split
  · simp
  · have key : ∀ (n : Nat) (r : Str), r.length ≤ n → (sp r).length ≤ r.length + 1 ∧ ∀ s ∈ sp r, s.length ≤ r.length := by
      intro n
      induction n with
      | zero => intro r hr; have : r = [] := List.length_eq_zero_iff.1 (by omega); subst this; rw [sp_nil (by simp [aft])]; simp
      | succ n ih =>
        intro r hr
        have hse : (seg r).length + (aft r).length = r.length := by rw [← List.length_append, seg_aft]
        rcases aft_cases r with h | ⟨r', h⟩
        · rw [sp_nil h]; simp
        · rw [sp_cons h]
          rw [h] at hse
          simp only [List.length_cons] at hse ⊢
          obtain ⟨i1, i2⟩ := ih r' (by omega)
          refine ⟨by omega, fun s hs => ?_⟩
          rcases List.mem_cons.1 hs with rfl | hs
          · omega
          · have := i2 s hs; omega
    obtain ⟨k1, k2⟩ := key _ (p.drop 1) (Nat.le_refl _)
    simp only [List.length_drop] at k1 k2
    exact ⟨by omega, fun s hs => by have := k2 s hs; omega⟩
theorem rvalid_lim (p : Str) (hp : p.length ≤ 1048575) : lim Try.prog cfg 15 [vs p] h = some (vb (parse p).isSome, h) := by
  refine lim_funp fun15 rfl (by simp) rfl rfl ?_
  delta cd15
  have hcs := cut_sizes p
  have hx := cut_lim (h := []) p (by omega)
  have hy := rof_lim (h := []) false (cutP p) (by omega) (fun s hs => by have := hcs.2 s hs; omega)
  have hv := valid_iff p
  by_cases hok : okL (cutP p) = true
  · have hy' : ofV (cutP p) = .tup [vs (pathOf (cutP p)), vi 0] := if_pos hok
    rw [hok, Bool.true_and] at hv
    have hpl := path_len hok
    simp -implicitDefEqProofs -dsimp only [go_sem, hx, hy, hy']
    rw [← hv]
    refine ⟨fun h1 => ?_, fun h1 => ⟨fun h2 => ?_, fun h2 => ⟨fun h3 => ?_, fun h3 => ?_⟩⟩⟩
    · rw [decide_eq_false]; intro e; rw [e] at hpl; omega
    · rw [decide_eq_false]; intro e; rw [e] at hpl; omega
    · rw [decide_eq_true h3]
    · rw [decide_eq_false h3]
  · have hy' : ofV (cutP p) = .tup [vs [], vi 1] := if_neg hok
    rw [Bool.not_eq_true] at hok
    rw [hok, Bool.false_and] at hv
    simp -implicitDefEqProofs -dsimp only [go_sem, hx, hy, hy', ← hv]
theorem rnames_lim (p : Str) (hp : p.length ≤ 1048575) : lim Try.prog cfg 18 [vs p] h = some (vts true (namesP p), h) := by
  refine lim_funp fun18 rfl (by simp) rfl (by simp [heapFree, free_ts]) ?_
  delta cd18
  have hx := cut_lim (h := []) p (by omega)
  have hy := rvalid_lim (h := []) p hp
  simp -implicitDefEqProofs -dsimp only [go_sem, hx, hy]
  unfold namesP
  cases hq : parse p with
  | none => simp [ts]
  | some l => simp [cut_some hq]
theorem rdepth_lim (p : Str) (hp : p.length ≤ 1048575) : lim Try.prog cfg 20 [vs p] h = some (vi (depthP p), h) := by
  refine lim_funp fun20 rfl (by simp) rfl rfl ?_
  delta cd20
  have hx := cut_lim (h := []) p (by omega)
  have hy := rvalid_lim (h := []) p hp
  simp -implicitDefEqProofs -dsimp only [go_sem, hx, hy]
  unfold depthP
  cases hq : parse p with
  | none => simp
  | some l => simp [cut_some hq]
theorem depth_names (p : Str) : depthP p < 1 ↔ namesP p = [] := by
  unfold depthP namesP
  cases parse p with
  | none => simp
  | some l => cases l <;> simp; omega
theorem names_cut {p : Str} (h : ¬ namesP p = []) : cutP p = namesP p := by
  unfold namesP at *
  cases hq : parse p with
  | none => rw [hq] at h; simp at h
  | some l => rw [cut_some hq]; rfl
theorem rparent_lim (p : Str) (hp : p.length ≤ 1048575) : lim Try.prog cfg 22 [vs p] h = some (vs (parentP p), h) := by
  refine lim_funp fun22 rfl (by simp) rfl rfl ?_
  delta cd22
  have hx := cut_lim (h := []) p (by omega)
  have hy := rdepth_lim (h := []) p hp
  have hd := depth_names p
  by_cases h0 : namesP p = []
  · simp -implicitDefEqProofs -dsimp only [go_sem, hx, hy]
    exact ⟨fun _ => by simp [parentP, h0], fun h1 => absurd (hd.2 h0) h1⟩
  · rw [names_cut h0] at hx
    have hpos := List.length_pos_iff.2 h0
    have hn := names_le p
    have hw := wrap_pred hpos (by omega)
    have hok := okL_sub (m := (namesP p).take ((namesP p).length - 1)) (names_ok p) (by simp) (fun s hs => List.mem_of_mem_take hs)
    have hj := rof_lim (h := []) false _ (join_ok hok).1 (fun s hs => by have := nameOK_le ((okL_names hok).2 s hs); omega)
    have hj' : ofV ((namesP p).take ((namesP p).length - 1)) = .tup [vs (pathOf ((namesP p).take ((namesP p).length - 1))), vi 0] := if_pos hok
    simp -implicitDefEqProofs -dsimp only [go_sem, hx, hy, hw, List.drop_zero, hj, hj']
    exact ⟨fun h1 => absurd (hd.1 h1) h0, fun _ => ⟨by omega, by omega, by simp [parentP, h0, List.dropLast_eq_take]⟩⟩
theorem rlast_lim (p : Str) (hp : p.length ≤ 1048575) : lim Try.prog cfg 24 [vs p] h = some (vs (lastP p), h) := by
  refine lim_funp fun24 rfl (by simp) rfl rfl ?_
  delta cd24
  have hx := cut_lim (h := []) p (by omega)
  have hy := rdepth_lim (h := []) p hp
  have hd := depth_names p
  by_cases h0 : namesP p = []
  · simp -implicitDefEqProofs -dsimp only [go_sem, hx, hy]
    exact ⟨fun _ => by simp [lastP, h0], fun h1 => absurd (hd.2 h0) h1⟩
  · rw [names_cut h0] at hx
    have hpos := List.length_pos_iff.2 h0
    have hn := names_le p
    have hw := wrap_pred hpos (by omega)
    simp -implicitDefEqProofs -dsimp only [go_sem, hx, hy, hw]
    exact ⟨fun h1 => absurd (hd.1 h1) h0, fun _ => ⟨by omega, by simp [lastP, List.getLast?_eq_getElem?, List.getElem?_eq_getElem (show (namesP p).length - 1 < (namesP p).length by omega)]⟩⟩
theorem rbelow_lim (p q : Str) (hp : p.length ≤ 1048575) (hq : q.length ≤ 1048575) : lim Try.prog cfg 26 [vs p, vs q] h = some (vb (belowP p q), h) := by
  refine lim_funp fun26 rfl (by simp) rfl rfl ?_
  delta cd26
  have hx := cut_lim (h := []) p (by omega)
  have hx2 := cut_lim (h := []) q (by omega)
  have hy := rvalid_lim (h := []) p hp
  have hy2 := rvalid_lim (h := []) q hq
  cases h1 : parse p with
  | none =>
    have hz : (parse p).isSome = false := by rw [h1]; rfl
    simp -implicitDefEqProofs -dsimp only [go_sem, hx, hy, hz]
    simp [belowP, h1]
  | some a =>
    have hz : (parse p).isSome = true := by rw [h1]; rfl
    cases h2 : parse q with
    | none =>
      have hz2 : (parse q).isSome = false := by rw [h2]; rfl
      simp -implicitDefEqProofs -dsimp only [go_sem, hx, hy, hy2, hz, hz2]
      simp [belowP, h1, h2]
    | some b =>
      have hz2 : (parse q).isSome = true := by rw [h2]; rfl
      rw [cut_some h1] at hx
      rw [cut_some h2] at hx2
      have ha := (okL_names (parse_some h1).1).1
      simp -implicitDefEqProofs -dsimp only [go_sem, hx, hx2, hy, hy2, hz, hz2]
      have hb : belowP p q = (decide (a.length < b.length) && decide (a = b.take a.length)) := by simp only [belowP, h1, h2]
      refine ⟨fun h3 => by rw [hb, decide_eq_false (by omega)]; rfl, fun h3 => ?_⟩
      refine wp_for (σ := Nat) (fun k => [(5, vts true a), (6, vts true b), (7, vi (k : Nat))]) (fun _ => []) (fun k => a.length - k) (fun k => k ≤ a.length ∧ a.take k = b.take k) 0 (by simp) rfl rfl ?_
      rintro k ⟨hk, hj⟩ N hN
      simp -implicitDefEqProofs -dsimp only [go_sem]
      refine ⟨fun h4 => ⟨by omega, by omega, fun h5 => ?_, fun h5 => ?_⟩, fun h4 => ?_⟩
      · refine hN (k + 1) _ (by omega) ⟨by omega, ?_⟩ (by simp -implicitDefEqProofs -dsimp only [go_sem, wrap_succ (show k < 9223372036854775807 by omega)])
        rw [List.take_succ_eq_append_getElem (by omega), List.take_succ_eq_append_getElem (by omega), hj, h5]
      · rw [hb, decide_eq_false (p := a = b.take a.length), Bool.and_false]
        intro e
        have e2 : a[k]? = (b.take a.length)[k]? := by rw [← e]
        rw [List.getElem?_eq_getElem (by omega), List.getElem?_take_of_lt (by omega), List.getElem?_eq_getElem (by omega)] at e2
        exact h5 (Option.some.inj e2)
      · have : k = a.length := by omega
        subst this
        rw [List.take_length] at hj
        rw [hb, decide_eq_true (by omega : a.length < b.length), decide_eq_true hj]; rfl

theorem cmpB_zero : ∀ (s u : Str), Lib.compareBytes s u = 0 ↔ s = u
  | [], [] => by simp [Lib.compareBytes]
  | [], _ :: _ => by simp [Lib.compareBytes]
  | _ :: _, [] => by simp [Lib.compareBytes]
  | a :: x, b :: y => by
    have ih := cmpB_zero x y
    simp only [Lib.compareBytes, List.cons.injEq]
    by_cases h1 : a < b
    · have : a ≠ b := fun e => by subst e; exact absurd h1 (UInt8.lt_irrefl a)
      simp [h1, this]
    · by_cases h2 : b < a
      · have : a ≠ b := fun e => by subst e; exact absurd h2 (UInt8.lt_irrefl a)
        simp [h1, h2, this]
      · have : a = b := UInt8.le_antisymm (UInt8.not_lt.1 h2) (UInt8.not_lt.1 h1)
        simp [h1, h2, this, ih]
theorem cmpB_neg : ∀ (s u : Str), decide (Lib.compareBytes s u < 0) = Op.bytesLess s u
  | [], [] => by simp [Lib.compareBytes, Op.bytesLess]
  | [], _ :: _ => by simp [Lib.compareBytes, Op.bytesLess]
  | _ :: _, [] => by simp [Lib.compareBytes, Op.bytesLess]
  | a :: x, b :: y => by
    have ih := cmpB_neg x y
    simp only [Lib.compareBytes, Op.bytesLess]
    by_cases h1 : a < b
    · simp [h1]
    · by_cases h2 : b < a
      · have : a ≠ b := fun e => by subst e; exact absurd h2 (UInt8.lt_irrefl a)
        simp [h1, h2, this]
      · have : a = b := UInt8.le_antisymm (UInt8.not_lt.1 h2) (UInt8.not_lt.1 h1)
        simp [h1, h2, this, ← ih]
theorem cmpF_same {l m : List Str} (k : Nat) (hk : k ≤ l.length) (hj : l.take k = m.take k) : cmpF Lib.compareBytes l m = cmpF Lib.compareBytes (l.drop k) (m.drop k) := by
  induction k generalizing l m with
  | zero => simp
  | succ k ih =>
    match l, m, hk, hj with
    | [], _, hk, _ => simp at hk
    | a :: l, [], _, hj => simp at hj
    | a :: l, b :: m, hk, hj =>
      simp only [List.take_succ_cons, List.cons.injEq] at hj
      obtain ⟨rfl, hj⟩ := hj
      simp only [List.drop_succ_cons, cmpF]
      rw [if_neg (by simp [(cmpB_zero a a).2 rfl])]
      exact ih (by simpa using hk) hj
theorem rless_lim (p q : Str) (hp : p.length ≤ 1048575) (hq : q.length ≤ 1048575) : lim Try.prog cfg 28 [vs p, vs q] h = some (vb (lessP p q), h) := by
  refine lim_funp fun28 rfl (by simp) rfl rfl ?_
  delta cd28
  have hx := cut_lim (h := []) p (by omega)
  have hx2 := cut_lim (h := []) q (by omega)
  have hy := rvalid_lim (h := []) p hp
  have hy2 := rvalid_lim (h := []) q hq
  cases h1 : parse p with
  | none =>
    have hz : (parse p).isSome = false := by rw [h1]; rfl
    simp -implicitDefEqProofs -dsimp only [go_sem, hx, hy, hz]
    simp [lessP, h1]
  | some a =>
    have hz : (parse p).isSome = true := by rw [h1]; rfl
    cases h2 : parse q with
    | none =>
      have hz2 : (parse q).isSome = false := by rw [h2]; rfl
      simp -implicitDefEqProofs -dsimp only [go_sem, hx, hy, hy2, hz, hz2]
      simp [lessP, h1, h2]
    | some b =>
      have hz2 : (parse q).isSome = true := by rw [h2]; rfl
      rw [cut_some h1] at hx
      rw [cut_some h2] at hx2
      have ha := (okL_names (parse_some h1).1).1
      simp -implicitDefEqProofs -dsimp only [go_sem, hx, hx2, hy, hy2, hz, hz2]
      have hb : lessP p q = decide (cmpF Lib.compareBytes a b < 0) := by simp only [lessP, h1, h2]
      refine wp_for (σ := Nat) (fun k => [(5, vts true a), (6, vts true b), (7, vi (k : Nat))]) (fun _ => []) (fun k => a.length - k) (fun k => k ≤ a.length ∧ k ≤ b.length ∧ a.take k = b.take k) 0 (by simp) rfl rfl ?_
      rintro k ⟨hk, hkb, hj⟩ N hN
      have dl : ∀ hh : k < a.length, a.drop k = a[k] :: a.drop (k + 1) := fun hh => List.drop_eq_getElem_cons hh
      have dm : ∀ hh : k < b.length, b.drop k = b[k] :: b.drop (k + 1) := fun hh => List.drop_eq_getElem_cons hh
      have dn : ∀ hh : b.length ≤ k, b.drop k = [] := fun hh => List.drop_eq_nil_of_le hh
      have dk : ∀ hh : a.length ≤ k, a.drop k = [] := fun hh => List.drop_eq_nil_of_le hh
      have hsame := cmpF_same k hk hj
      have hend : ¬ (k < a.length ∧ k < b.length) → lessP p q = decide (a.length < b.length) := fun hne => by
        rw [hb, hsame]
        by_cases hka : k < a.length
        · rw [dl hka, dn (by omega)]
          simp [cmpF]; omega
        · rw [dk (by omega)]
          by_cases hkb' : k < b.length
          · rw [dm hkb']; simp [cmpF]; omega
          · rw [dn (by omega)]; simp [cmpF]; omega
      have hdiff : ∀ (x1 : k < a.length) (x2 : k < b.length), a[k] ≠ b[k] → lessP p q = Op.bytesLess a[k] b[k] := fun x1 x2 hne => by
        rw [hb, hsame, dl x1, dm x2, cmpF, if_pos (fun e => hne ((cmpB_zero _ _).1 e)), cmpB_neg]
      have hstep : ∀ (x1 : k < a.length) (x2 : k < b.length), a[k] = b[k] → a.take (k + 1) = b.take (k + 1) := fun x1 x2 he => by
        rw [List.take_succ_eq_append_getElem x1, List.take_succ_eq_append_getElem x2, hj, he]
      simp -implicitDefEqProofs -dsimp only [go_sem]
      refine ⟨fun x1 => ⟨fun x2 => ⟨by omega, by omega, fun he => ?_, fun hne => ⟨by omega, by omega, fun hl => ?_, fun hl => ?_⟩⟩, fun x2 => ⟨fun hl => ?_, fun hl => ?_⟩⟩, fun x1 => ⟨fun hl => ?_, fun hl => ?_⟩⟩
      · exact hN (k + 1) _ (by omega) ⟨by omega, by omega, hstep (by omega) (by omega) he⟩ (by simp -implicitDefEqProofs -dsimp only [go_sem, wrap_succ (show k < 9223372036854775807 by omega)])
      · rw [hdiff (by omega) (by omega) hne, hl]
      · rw [hdiff (by omega) (by omega) hne, hl]
      · rw [hend (by omega), decide_eq_true (by omega)]
      · rw [hend (by omega), decide_eq_false (by omega)]
      · rw [hend (by omega), decide_eq_true (by omega)]
      · rw [hend (by omega), decide_eq_false (by omega)]
end Go.DS

/-
  Commands, and cells of paths: plain.
-/
namespace Go.DS
open Go
attribute [go_sem] exists_true_left exists_prop
abbrev Cel := Str × UInt8
abbrev cel (c : Cel) : List DV := [vs c.1, .sc (.int .u8 c.2.toNat)]
def cls (l : List Cel) : List (List DV) := l.map fun c => [vs c.1, .sc (.int .u8 c.2.toNat)]
@[go_sem] theorem cls_len (l : List Cel) : (cls l).length = l.length := by simp [cls]
@[go_sem] theorem cls_app (l m : List Cel) : cls l ++ cls m = cls (l ++ m) := by simp [cls]
@[go_sem high] theorem idxP_cls (l : List Cel) (i : Int) (N : List DV → Prop) : IdxP (cls l) i N = IdxP l i fun c => N [vs c.1, .sc (.int .u8 c.2.toNat)] := idxP_map
theorem free_cls : ∀ l : List Cel, heapFree.alls (cls l) = true
  | [] => rfl
  | s :: l => by
    have := free_cls l
    simp only [cls] at this
    simp only [cls, List.map_cons, heapFree.alls, heapFree.all, heapFree, this, Bool.and_self]
/-- Bytes, as a list. -/
def bys (l : List UInt8) : List (List DV) := l.map fun b => [.sc (.int .u8 b.toNat)]
@[go_sem] theorem bys_len (l : List UInt8) : (bys l).length = l.length := by simp [bys]
@[go_sem high] theorem idxP_bys (l : List UInt8) (i : Int) (N : List DV → Prop) : IdxP (bys l) i N = IdxP l i fun c => N [.sc (.int .u8 c.toNat)] := idxP_map
theorem free_bys : ∀ l : List UInt8, heapFree.alls (bys l) = true
  | [] => rfl
  | s :: l => by
    have := free_bys l
    simp only [bys] at this
    simp only [bys, List.map_cons, heapFree.alls, heapFree.all, heapFree, this, Bool.and_self]
/-- A command. -/
structure Cmd where
  client : Int
  seq : Int
  op : Int
  path : Str
  value : Str
  version : Int
  a : Int
  b : Int
  deriving DecidableEq
abbrev cmdL (c : Cmd) : List DV := [vi c.client, vi c.seq, vi c.op, vs c.path, vs c.value, vi c.version, vi c.a, vi c.b]
abbrev cmdD (c : Cmd) : DV := .agg [vi c.client, vi c.seq, vi c.op, vs c.path, vs c.value, vi c.version, vi c.a, vi c.b]
def cms (l : List Cmd) : List (List DV) := l.map fun c => [vi c.client, vi c.seq, vi c.op, vs c.path, vs c.value, vi c.version, vi c.a, vi c.b]
@[go_sem] theorem cms_len (l : List Cmd) : (cms l).length = l.length := by simp [cms]
@[go_sem high] theorem idxP_cms (l : List Cmd) (i : Int) (N : List DV → Prop) : IdxP (cms l) i N = IdxP l i fun c => N [vi c.client, vi c.seq, vi c.op, vs c.path, vs c.value, vi c.version, vi c.a, vi c.b] := idxP_map
theorem free_cms : ∀ l : List Cmd, heapFree.alls (cms l) = true
  | [] => rfl
  | s :: l => by
    have := free_cms l
    simp only [cms] at this
    simp only [cms, List.map_cons, heapFree.alls, heapFree.all, heapFree, this, Bool.and_self]

def ofP (p : Str) (l : List UInt8) : List Cel := l.map fun b => (p, b)
/-- What is read, what is written. -/
def usesP (c : Cmd) : List Cel × List Cel :=
  if parse c.path = none then ([], []) else
  if c.op = 4 then (ofP c.path [101, 118], []) else
  if c.op = 5 then (ofP c.path [101, 107], []) else
  if parentP c.path = [] then (if c.op = 1 then (ofP c.path [101], []) else ([], [])) else
  if c.op = 1 then (ofP (parentP c.path) [101] ++ ofP c.path [101], ofP c.path [101, 118] ++ ofP (parentP c.path) [107]) else
  if c.op = 2 then (ofP c.path [101, 107], ofP c.path [101, 118] ++ ofP (parentP c.path) [107]) else
  if c.op = 3 then (ofP c.path [101], ofP c.path [118]) else
  if c.op = 6 then (ofP c.path [101, 118], ofP c.path [118]) else ([], [])
theorem uses_le (c : Cmd) : (usesP c).1.length ≤ 3 ∧ (usesP c).2.length ≤ 3 := by
  unfold usesP
  repeat' split
  all_goals simp [ofP]
theorem root_iff {p : Str} {l : List Str} (h : parse p = some l) : parentP p = [] ↔ p = [47] := by
  obtain ⟨h1, h2⟩ := parse_some h
  have hn : namesP p = l := by simp [namesP, h]
  unfold parentP
  rw [hn]
  constructor
  · intro h3
    split at h3
    · rename_i h4; subst h4; rw [h2]; simp [pathOf, join_nil]
    · simp [pathOf] at h3
  · intro h3
    subst h3
    rw [parse_root] at h
    cases h
    simp
/-- The set of cells, as a map. -/
def mcs (l : List Cel) : List (DV × DV) := l.map fun c => (.agg [vs c.1, .sc (.int .u8 c.2.toNat)], .sc (.bool true))
def insC (c : Cel) (l : List Cel) : List Cel := if c ∈ l then l else l ++ [c]
def insAll (l : List Cel) : List Cel := l.foldl (fun m c => insC c m) []
theorem insAll_snoc (l : List Cel) (c : Cel) : insAll (l ++ [c]) = insC c (insAll l) := by simp [insAll]
theorem mem_insC {c d : Cel} {l : List Cel} : d ∈ insC c l ↔ d = c ∨ d ∈ l := by
  unfold insC
  split
  · rename_i h
    exact ⟨.inr, fun hd => hd.elim (fun e => e ▸ h) id⟩
  · simp [or_comm]
theorem mem_insAll {d : Cel} (l : List Cel) : d ∈ insAll l ↔ d ∈ l := by
  have : ∀ (l m : List Cel), d ∈ l.foldl (fun m c => insC c m) m ↔ d ∈ l ∨ d ∈ m := by
    intro l
    induction l with
    | nil => intro m; simp
    | cons c l ih => intro m; simp only [List.foldl_cons, ih, mem_insC, List.mem_cons]; grind
  simp [insAll, this]
theorem mkB_beq (l m : List UInt8) : (mkB l == mkB m) = decide (l = m) := by
  have h : (mkB l == mkB m) = (Array.mk l == Array.mk m) := rfl
  rw [h, Bool.eq_iff_iff]
  simp
theorem eqK_cel (c d : Cel) : eqKey [2, 0] (.agg [vs c.1, .sc (.int .u8 c.2.toNat)]) (.agg [vs d.1, .sc (.int .u8 d.2.toNat)]) = some (decide (c = d)) := by
  have e := mkB_beq c.1 d.1
  have e2 : ((c.2.toNat : Int) == (d.2.toNat : Int)) = decide (c.2 = d.2) := by
    rw [Bool.eq_iff_iff]
    simp only [beq_iff_eq, decide_eq_true_eq]
    constructor
    · intro h; exact UInt8.toNat_inj.1 (by omega)
    · intro h; rw [h]
  simp only [eqKey, eqs, scs, eqV, eq1, e, e2, if_true]
  congr 1
  rw [Bool.eq_iff_iff]
  simp [Prod.ext_iff]
theorem find_mcs (c : Cel) : ∀ l : List Cel, findD [2, 0] (.agg [vs c.1, .sc (.int .u8 c.2.toNat)]) (mcs l) = some (if c ∈ l then some (.sc (.bool true)) else none)
  | [] => rfl
  | d :: l => by
    have ih := find_mcs c l
    simp only [mcs] at ih
    simp only [mcs, List.map_cons, findD, eqK_cel]
    by_cases h : c = d
    · simp [h]
    · simp only [h, decide_false, ih, List.mem_cons, false_or]
theorem set_mcs (c : Cel) : ∀ l : List Cel, setKey [2, 0] (.agg [vs c.1, .sc (.int .u8 c.2.toNat)]) (.sc (.bool true)) (mcs l) = some (mcs (insC c l))
  | [] => rfl
  | d :: l => by
    have ih := set_mcs c l
    simp only [mcs] at ih
    simp only [mcs, List.map_cons, setKey, eqK_cel]
    by_cases h : c = d
    · subst h; simp [insC]
    · simp only [h, decide_false, ih, Option.map_some, Option.some.injEq]
      have : insC c (d :: l) = d :: insC c l := by
        unfold insC
        simp only [List.mem_cons, h, false_or]
        split <;> rfl
      rw [this]; rfl
def spoilsP (w r x : List Cel) : Bool := w.any fun c => decide (c ∈ r ++ x)
def pathsB (a b : Cmd) : Bool := spoilsP (usesP a).2 (usesP b).1 (usesP b).2 || spoilsP (usesP b).2 (usesP a).1 (usesP a).2
def controlB (c : Cmd) : Bool := decide (7 ≤ c.op) && decide (c.op ≤ 9)
def bothB (a b : Cmd) : Bool := if a.op = 0 ∨ b.op = 0 then false else controlB a || controlB b || decide (a.client = b.client) || pathsB a b
theorem paths_comm (a b : Cmd) : pathsB a b = pathsB b a := by unfold pathsB; rw [Bool.or_comm]
def meetB (a b : List Cel) : Bool := a.any fun c => decide (c ∈ b)
theorem paths_meet (a b : Cmd) : pathsB a b = (meetB (usesP a).2 (usesP b).1 || meetB (usesP a).2 (usesP b).2 || meetB (usesP b).2 (usesP a).1) := by
  rw [Bool.eq_iff_iff]
  simp only [pathsB, spoilsP, meetB, Bool.or_eq_true, List.any_eq_true, decide_eq_true_eq, List.mem_append]
  grind
def bigC (c : Cmd) : Bool := decide (300 < c.path.length) || decide (300 < c.value.length)
/-- Is there more than is looked at? -/
def overP (l : List Cmd) : Bool := (l.take 61).any bigC || decide (60 < l.length)
end Go.DS

/-
  What the evaluator is told of the library's functions holds.
-/
namespace Go.DS
open Go Go.Proofs Go.Shelf Go.RowKit
set_option linter.unusedVariables false
set_option linter.unusedSimpArgs false
theorem ext_ok : ExtS Try.prog cfg := by
  intro k F hF args h r h' hx
  change extF k = some F at hF
  unfold extF at hF
  split at hF
  · rename_i hk; subst hk; cases hF
    unfold indexF at hx
    split at hx
    · cases hx; exact index_ok
    · cases hx
  split at hF
  · rename_i hk; subst hk; cases hF
    unfold compF at hx
    split at hx
    · cases hx; exact compare_ok
    · cases hx
  split at hF
  · rename_i hk; subst hk; cases hF
    unfold joinF at hx
    split at hx
    · split at hx
      · rename_i hs
        split at hx
        · rename_i hle; cases hx; exact join_ok' hs hle.1 hle.2
        · cases hx
      · cases hx
    · cases hx
  split at hF
  · rename_i hk; subst hk; cases hF; exact growC_ok hx
  cases hF
end Go.DS

/-
  Arguments, opened: lists of texts.
-/
namespace Go.DS
open Go Go.Proofs Go.ChangeShapes Go.WideShapes Go.RowKit Go.Proofs.Ytejkkmiaffbjbaa Go.Deep
set_option linter.unusedVariables false
set_option linter.unusedSimpArgs false

theorem own' : ownKnob Try.prog.godebug = none := by kernel_rfl
theorem laidOut' : laidOutB Try.prog = true := by kernel_rfl
theorem bulk_get {H : Type} : ∀ {l : List (DataW H)} {d : DataW H}, d ∈ l → Rows.uptoBulk d ≤ Rows.uptoBulkAll l
  | x :: l, d, h => by
    simp only [Rows.uptoBulkAll]
    rcases List.mem_cons.1 h with rfl | h
    · omega
    · have := bulk_get h; omega
theorem bulk_pos {H : Type} (d : DataW H) : 1 ≤ Rows.uptoBulk d := by
  cases d <;> try (simp [Rows.uptoBulk]; done)
  rename_i l; cases l <;> simp [Rows.uptoBulk]
theorem bulk_len {H : Type} : ∀ (l : List (DataW H)), l.length ≤ Rows.uptoBulkAll l
  | [] => Nat.le_refl _
  | d :: l => by
    have := bulk_len l
    have := bulk_pos d
    simp only [Rows.uptoBulkAll, List.length_cons]; omega

theorem strs_rel {H : Type} {enc : TypeId × Value → H} {P : Program} {W : World} {held : Bool} {t e : TypeId} {a : Option Addr} {len cap : Nat} {d : DataW H} {ps : List MemPlace} (ht : P.underlying t = some (.slice e)) (he : P.underlying e = some .string) (hc : P.cellsOf e = 1)
    (h : DataW.Trod enc P W 0 (fun _ => true) held t (.slice a len cap) d ps) :
    ∃ l : List Str, RelV (gh0 W) (.list false 1 (ts l)) (.slice a len cap) ∧ l.length < Rows.uptoBulk d ∧ ∀ s ∈ l, s.length < Rows.uptoBulk d := by
  obtain ⟨fuel, hf⟩ := h
  rcases open_strs ht he hc hf with ⟨hcs, hx⟩ | ⟨ad, len', cap', m, Sx, hcs, _, hl, hm, hmm, hx, hcell⟩
  · simp [Value.cells] at hcs
    obtain ⟨rfl, rfl, rfl⟩ := hcs
    refine ⟨[], .empty, ?_, by simp⟩
    exact bulk_pos d
  · simp [Value.cells] at hcs
    obtain ⟨rfl, rfl, rfl⟩ := hcs
    have hlm : len ≤ m := by rw [hmm]; simp; exact hl
    have hd : d = .slice ((List.range len).map fun i => .lit (.string (Sx i).data.toList)) ((List.range (m - len)).map fun j => .lit (.string (Sx (len + j)).data.toList)) := by
      simpa using congrArg Prod.fst hx
    refine ⟨(List.range len).map fun i => bs (Sx i), ?_, ?_, ?_⟩
    · have hts : ts ((List.range len).map fun i => bs (Sx i)) = (List.range len).map fun i => [DV.sc (.string (Sx i))] := by
        simp only [ts, List.map_map]; rfl
      have hfl : ((List.range len).map fun i => [DV.sc (.string (Sx i))]).flatten = (List.range len).map fun i => DV.sc (.string (Sx i)) := by
        generalize List.range len = r
        induction r with
        | nil => rfl
        | cons x r ih => simp only [List.map_cons, List.flatten_cons, ih]; rfl
      have hlen : ((List.range len).map fun i => [DV.sc (.string (Sx i))]).length = len := by simp
      obtain ⟨b, off, g⟩ := ad
      show RelV (gh0 W) (.list false 1 (ts _)) _
      rw [hts]
      by_cases hz : len = 0
      · subst hz
        exact .empty
      · have hgn : g = none := by
          have := (hcell 0 (by omega)).1
          cases g with
          | none => rfl
          | some _ =>
            simp [World.cell?, Addr.add] at this
            split at this <;> simp at this
        subst hgn
        have hg : ∀ i, i < m → W.cell? ⟨b, off + i, none⟩ = some (.string (Sx i)) := fun i hi => by
          have := (hcell i hi).1
          by_cases hi0 : i = 0
          · subst hi0; simpa [Addr.add] using this
          · simpa [Addr.add, hi0] using this
        have := RelV.list (g := gh0 W) (own := false) (es := 1) (l := (List.range len).map fun i => [DV.sc (.string (Sx i))]) (cap := cap) (b := b) (off := off) (vs := (List.range len).map fun i => Value.string (Sx i)) (by simpa using hl) (by simp)
          (by rw [hfl]; simp) (by
            rw [hfl]
            intro k x v hx hv
            rw [List.getElem?_map] at hx hv
            cases hr : (List.range len)[k]? with
            | none => rw [hr] at hx; cases hx
            | some i => rw [hr] at hx hv; cases hx; cases hv; exact .sc _) (by
            intro k v hv
            rw [List.getElem?_map] at hv
            cases hr : (List.range len)[k]? with
            | none => rw [hr] at hv; cases hv
            | some i =>
              rw [hr] at hv; cases hv
              obtain ⟨hk, rfl⟩ := List.getElem?_eq_some_iff.1 hr
              simp only [List.getElem_range]
              simp only [List.length_range] at hk
              exact gh0_pc (hg k (by omega)) rfl)
        rwa [hlen] at this
    · rw [hd]
      have := bulk_len ((List.range len).map fun i => (DataW.lit (.string (Sx i).data.toList) : DataW H))
      simp only [Rows.uptoBulk, List.length_map, List.length_range] at this ⊢
      omega
    · intro s hs
      obtain ⟨i, hi, rfl⟩ := List.mem_map.1 hs
      have := bulk_get (H := H) (List.mem_map_of_mem (f := fun i => (DataW.lit (.string (Sx i).data.toList) : DataW H)) hi)
      rw [hd]
      simp only [Rows.uptoBulk] at this ⊢
      show (Sx i).data.toList.length < _
      omega
end Go.DS

/-
  Arguments of any plain type, opened: texts, numbers, truth values, slices and structs of them.
-/
namespace Go.DS
open Go Go.Proofs Go.ChangeShapes Go.WideShapes Go.RowKit Go.Proofs.Ytejkkmiaffbjbaa Go.Deep
set_option linter.unusedVariables false
set_option linter.unusedSimpArgs false

/-- Fields, one behind the other. -/
def tilesB (P : Program) : List Field → Nat → Nat → Bool
  | [], k, m => k == m
  | f :: fs, k, m => f.offset == k && tilesB P fs (k + P.cellsOf f.type) m
/-- Types of plain data. -/
def plainTy (P : Program) : Nat → TypeId → Bool
  | 0, _ => false
  | n + 1, t => match P.underlying t with
    | some .bool => P.cellsOf t == 1
    | some (.int _) => P.cellsOf t == 1
    | some .string => P.cellsOf t == 1
    | some (.slice e) => P.cellsOf t == 1 && decide (0 < P.cellsOf e) && plainTy P n e
    | some (.struct fs) => tilesB P fs.toList 0 (P.cellsOf t) && fs.toList.all fun f => plainTy P n f.type
    | _ => false
/-- What clean cells of plain data look like. -/
def Sh (P : Program) (B : Nat) : Nat → TypeId → List DV → Prop
  | 0, _, _ => False
  | n + 1, t, ds => match P.underlying t with
    | some .bool => ∃ b, ds = [.sc (.bool b)]
    | some (.int k) => ∃ m, ds = [.sc (.int k m)] ∧ k.min ≤ m ∧ m ≤ k.max
    | some .string => ∃ s, ds = [.sc (.string (mkB s))] ∧ s.length ≤ B
    | some (.slice e) => ∃ l, ds = [.list false (P.cellsOf e) l] ∧ l.length ≤ B ∧ ∀ r ∈ l, Sh P B n e r
    | some (.struct fs) => ds.length = P.cellsOf t ∧ ∀ (i : Nat) (f : Field), fs[i]? = some f → Sh P B n f.type ((ds.drop f.offset).take (P.cellsOf f.type))
    | _ => False
theorem sh_int {P : Program} {B n : Nat} {t : TypeId} {k : IntKind} {ds : List DV} (ht : P.underlying t = some (.int k)) (h : Sh P B (n + 1) t ds) : ∃ m, ds = [.sc (.int k m)] ∧ k.min ≤ m ∧ m ≤ k.max := by
  unfold Sh at h; rw [ht] at h; exact h
theorem sh_bool {P : Program} {B n : Nat} {t : TypeId} {ds : List DV} (ht : P.underlying t = some .bool) (h : Sh P B (n + 1) t ds) : ∃ b, ds = [.sc (.bool b)] := by
  unfold Sh at h; rw [ht] at h; exact h
theorem sh_str {P : Program} {B n : Nat} {t : TypeId} {ds : List DV} (ht : P.underlying t = some .string) (h : Sh P B (n + 1) t ds) : ∃ s, ds = [.sc (.string (mkB s))] ∧ s.length ≤ B := by
  unfold Sh at h; rw [ht] at h; exact h
theorem sh_slice {P : Program} {B n : Nat} {t e : TypeId} {ds : List DV} (ht : P.underlying t = some (.slice e)) (h : Sh P B (n + 1) t ds) : ∃ l, ds = [.list false (P.cellsOf e) l] ∧ l.length ≤ B ∧ ∀ r ∈ l, Sh P B n e r := by
  unfold Sh at h; rw [ht] at h; exact h
theorem sh_struct {P : Program} {B n : Nat} {t : TypeId} {fs : Array Field} {ds : List DV} (ht : P.underlying t = some (.struct fs)) (h : Sh P B (n + 1) t ds) :
    ds.length = P.cellsOf t ∧ ∀ (i : Nat) (f : Field), fs[i]? = some f → Sh P B n f.type ((ds.drop f.offset).take (P.cellsOf f.type)) := by
  unfold Sh at h; rw [ht] at h; exact h

theorem RelL.cells_one {g : Gh} {ds : List DV} {vs : List Value} (hr : RelL g ds vs) (hc : ds.all DV.cell = true) : ∀ u ∈ vs, u.oneCell' = true := relL_one hr hc

/-- Rows, one behind the other in memory. -/
theorem rows_list {g : Gh} {b off es : Nat} {Q : List DV → Prop} : ∀ (len : Nat), (∀ i, i < len → ∃ ds cs, RelL g ds cs ∧ ds.length = es ∧ (∀ k v, cs[k]? = some v → g.pc b (off + i * es + k) = some v) ∧ Q ds) →
    ∃ (l : List (List DV)) (vs : List Value), l.length = len ∧ (∀ r ∈ l, r.length = es ∧ Q r) ∧ RelL g l.flatten vs ∧ (∀ k v, vs[k]? = some v → g.pc b (off + k) = some v)
  | 0, _ => ⟨[], [], rfl, by simp, RelL.nil g, by simp⟩
  | len + 1, H => by
    obtain ⟨l, vs, h1, h2, h3, h4⟩ := rows_list len fun i hi => H i (by omega)
    obtain ⟨ds, cs, k1, k2, k3, k4⟩ := H len (by omega)
    have hfl : ∀ (l : List (List DV)), (∀ r ∈ l, r.length = es ∧ Q r) → l.flatten.length = l.length * es := by
      intro l
      induction l with
      | nil => intro _; simp
      | cons r l ih =>
        intro h
        rw [List.flatten_cons, List.length_append, (h r List.mem_cons_self).1, ih fun x hx => h x (List.mem_cons_of_mem _ hx), List.length_cons, Nat.add_mul]
        omega
    have hlen : vs.length = len * es := by rw [← h3.len, hfl l h2, h1]
    refine ⟨l ++ [ds], vs ++ cs, by simp [h1], ?_, ?_, ?_⟩
    · intro r hr
      rcases List.mem_append.1 hr with hr | hr
      · exact h2 r hr
      · rw [List.mem_singleton.1 hr]; exact ⟨k2, k4⟩
    · rw [List.flatten_append, List.flatten_cons, List.flatten_nil, List.append_nil]
      exact h3.append k1
    · intro k v hv
      by_cases hk : k < vs.length
      · rw [List.getElem?_append_left hk] at hv; exact h4 k v hv
      · rw [List.getElem?_append_right (by omega)] at hv
        have := k3 _ v hv
        rw [← this]
        congr 1
        omega

theorem tiles_rel {H : Type} {enc : TypeId × Value → H} {P : Program} {W : World} {held : Bool} {g : Gh} {B n m : Nat} {cs : List Value} {xs : List (DataW H × List MemPlace)}
    (ih : ∀ t cs d ps, plainTy P n t = true → DataW.trod enc P W 0 (fun _ => true) held m t cs = some (d, ps) → Rows.uptoBulk d ≤ B + 1 → ∃ ds, RelL g ds cs ∧ ds.all DV.cell = true ∧ Sh P B n t ds ∧ cs.length = P.cellsOf t)
    (hB : ∀ x ∈ xs, Rows.uptoBulk x.1 ≤ B + 1) :
    ∀ (fs : List Field) (i0 k tot : Nat), tilesB P fs k tot = true → (fs.all fun f => plainTy P n f.type) = true → cs.length = tot →
      (∀ (i : Nat) (f : Field), fs[i]? = some f → ∃ x, xs[i0 + i]? = some x ∧ DataW.trod enc P W 0 (fun _ => true) held m f.type ((cs.drop f.offset).take (P.cellsOf f.type)) = some x) →
      k ≤ tot ∧ ∃ ds, RelL g ds (cs.drop k) ∧ ds.all DV.cell = true ∧ (∀ (i : Nat) (f : Field), fs[i]? = some f → k ≤ f.offset ∧ Sh P B n f.type ((ds.drop (f.offset - k)).take (P.cellsOf f.type)))
  | [], i0, k, tot, ht, _, hl, _ => by
    simp only [tilesB, beq_iff_eq] at ht
    subst ht
    refine ⟨Nat.le_refl _, [], ?_, rfl, by simp⟩
    rw [List.drop_eq_nil_of_le (by omega)]
    exact RelL.nil g
  | f :: fs, i0, k, tot, ht, hp, hl, hx => by
    simp only [tilesB, Bool.and_eq_true, beq_iff_eq] at ht
    simp only [List.all_cons, Bool.and_eq_true] at hp
    obtain ⟨hk, ds2, r2, c2, s2⟩ := tiles_rel ih hB fs (i0 + 1) (k + P.cellsOf f.type) tot ht.2 hp.2 hl (fun i f' hf => by
      have := hx (i + 1) f' (by simpa using hf)
      rwa [show i0 + (i + 1) = i0 + 1 + i by omega] at this)
    obtain ⟨x, hx1, hx2⟩ := hx 0 f rfl
    obtain ⟨ds1, r1, c1, s1, l1⟩ := ih f.type _ x.1 x.2 hp.1 hx2 (hB x (List.mem_of_getElem? hx1))
    rw [ht.1] at r1 l1
    have hsp : cs.drop k = (cs.drop k).take (P.cellsOf f.type) ++ cs.drop (k + P.cellsOf f.type) := by
      have e := (List.take_append_drop (P.cellsOf f.type) (cs.drop k)).symm
      rw [List.drop_drop] at e
      exact e
    have hl1 : ds1.length = P.cellsOf f.type := by rw [r1.len, l1]
    refine ⟨by omega, ds1 ++ ds2, ?_, by rw [List.all_append, c1, c2]; rfl, ?_⟩
    · rw [hsp]; exact r1.append r2
    · intro i f' hf
      cases i with
      | zero =>
        cases hf
        refine ⟨by omega, ?_⟩
        rw [ht.1, Nat.sub_self, List.drop_zero, List.take_append_of_le_length (by omega), List.take_of_length_le (by omega)]
        exact s1
      | succ i =>
        obtain ⟨q1, q2⟩ := s2 i f' (by simpa using hf)
        refine ⟨by omega, ?_⟩
        rw [List.drop_append, List.drop_eq_nil_of_le (by omega), List.nil_append, hl1, show f'.offset - k - P.cellsOf f.type = f'.offset - (k + P.cellsOf f.type) by omega]
        exact q2

/-- Whatever plain data is read in memory has a clean form. -/
theorem any_rel {H : Type} {enc : TypeId × Value → H} {P : Program} {W : World} {held : Bool} {B : Nat} : ∀ (n m : Nat) (t : TypeId) (cs : List Value) (d : DataW H) (ps : List MemPlace), plainTy P n t = true →
    DataW.trod enc P W 0 (fun _ => true) held m t cs = some (d, ps) → Rows.uptoBulk d ≤ B + 1 → ∃ ds, RelL (gh0 W) ds cs ∧ ds.all DV.cell = true ∧ Sh P B n t ds ∧ cs.length = P.cellsOf t
  | 0, m, t, cs, d, ps, hp, _, _ => by simp [plainTy] at hp
  | n + 1, m, t, cs, d, ps, hp, h, hb => by
    unfold plainTy at hp
    unfold Sh
    split at hp
    · rename_i ht
      obtain ⟨b, rfl, _⟩ := DataW.trod_bool ht h
      exact ⟨_, .cons (.sc _) (.nil _), rfl, ⟨b, rfl⟩, by simpa using (beq_iff_eq.1 hp).symm⟩
    · rename_i k ht
      obtain ⟨x, rfl, _, hw⟩ := DataW.trod_int ht h
      simp only [Lit.wf, Bool.and_eq_true, decide_eq_true_eq] at hw
      exact ⟨_, .cons (.sc _) (.nil _), rfl, ⟨x, rfl, hw.1, hw.2⟩, by simpa using (beq_iff_eq.1 hp).symm⟩
    · rename_i ht
      obtain ⟨s, rfl, hx, _⟩ := DataW.trod_string ht h
      cases hx
      refine ⟨_, .cons (.sc _) (.nil _), rfl, ⟨bs s, rfl, ?_⟩, by simpa using (beq_iff_eq.1 hp).symm⟩
      simp only [Rows.uptoBulk] at hb
      show s.data.toList.length ≤ B
      omega
    · rename_i e ht
      simp only [Bool.and_eq_true, beq_iff_eq, decide_eq_true_eq] at hp
      obtain ⟨⟨hp1, hp2⟩, hp3⟩ := hp
      rcases DataW.trod_slice ht h with ⟨rfl, hx⟩ | ⟨a, len, cap, elems, rest, q, rfl, rfl, hx, _, hlc, _, hel, hat, _, _⟩
      · exact ⟨_, .cons .empty (.nil _), rfl, ⟨[], rfl, by simp, by simp⟩, by simpa using hp1.symm⟩
      · have hd : d = .slice (elems.map (·.1)) (rest.map (·.1)) := congrArg Prod.fst hx
        subst hd
        simp only [Rows.uptoBulk] at hb
        have hlB : len ≤ B := by
          have := bulk_len (elems.map (·.1))
          rw [List.length_map] at this
          omega
        by_cases hz : len = 0
        · subst hz
          exact ⟨_, .cons .empty (.nil _), rfl, ⟨[], rfl, by simp, by simp⟩, by simpa using hp1.symm⟩
        obtain ⟨b, off, sp⟩ := a
        have hcell : ∀ i, i < len → ∃ ds cs, RelL (gh0 W) ds cs ∧ ds.length = P.cellsOf e ∧ ds.all DV.cell = true ∧ Sh P B n e ds ∧ ∀ k v, cs[k]? = some v → W.cell? ((Addr.mk b off sp).add (i * P.cellsOf e) |>.add k) = some v ∧ v.oneCell' = true := by
          intro i hi
          have h1 := hat i hi
          have h2 : elems[i]? = some (elems[i]'(by omega)) := List.getElem?_eq_getElem (by omega)
          rw [h2, Option.bind_eq_some_iff] at h1
          obtain ⟨cs, c1, c2⟩ := h1
          obtain ⟨_, c3, c4⟩ := World.cells?_some c1
          have hbi : Rows.uptoBulk (elems[i]'(by omega)).1 ≤ B + 1 := by
            have := bulk_get (l := elems.map (·.1)) (d := (elems[i]'(by omega)).1) (List.mem_map_of_mem (List.getElem_mem _))
            omega
          obtain ⟨ds, r1, r2, r3, r4⟩ := any_rel n q e cs _ _ hp3 c2 hbi
          refine ⟨ds, cs, r1, by rw [r1.len, r4], r2, r3, fun k v hv => ?_⟩
          have hk : k < P.cellsOf e := by rw [← c3]; exact (List.getElem?_eq_some_iff.1 hv).1
          exact ⟨(c4 k hk).trans hv, relL_one r1 r2 v (List.mem_of_getElem? hv)⟩
        have hsp : sp = none := by
          obtain ⟨ds, cs, r1, r2, _, _, r5⟩ := hcell 0 (by omega)
          have : cs ≠ [] := fun e0 => by
            have h0 := r1.len
            rw [e0, r2, List.length_nil] at h0
            omega
          obtain ⟨v, hv⟩ : ∃ v, cs[0]? = some v := ⟨cs[0]'(List.length_pos_iff.2 this), List.getElem?_eq_getElem _⟩
          have := (r5 0 v hv).1
          cases sp with
          | none => rfl
          | some _ =>
            simp [World.cell?, Addr.add] at this
            split at this <;> simp at this
        subst hsp
        have hadd : ∀ i k : Nat, ((Addr.mk b off none).add i).add k = ⟨b, off + i + k, none⟩ := fun i k => by
          by_cases hi : i = 0 <;> by_cases hk : k = 0 <;> simp [Addr.add, hi, hk]
        obtain ⟨l, vs, l1, l2, l3, l4⟩ := rows_list (g := gh0 W) (b := b) (off := off) (es := P.cellsOf e) (Q := fun ds => ds.all DV.cell = true ∧ Sh P B n e ds) len fun i hi => by
          obtain ⟨ds, cs, r1, r2, r3, r4, r5⟩ := hcell i hi
          refine ⟨ds, cs, r1, r2, fun k v hv => ?_, r3, r4⟩
          obtain ⟨q1, q2⟩ := r5 k v hv
          rw [hadd] at q1
          exact gh0_pc q1 q2
        refine ⟨[.list false (P.cellsOf e) l], .cons ?_ (.nil _), rfl, ⟨l, rfl, by omega, fun r hr => (l2 r hr).2.2⟩, by simpa using hp1.symm⟩
        rw [← l1]
        exact .list (by omega) (fun r hr => (l2 r hr).1) l3.len l3.at_ l4
    · rename_i fs ht
      simp only [Bool.and_eq_true] at hp
      obtain ⟨xs, q, rfl, hx, hcl, hxl, hf⟩ := DataW.trod_struct ht h
      have hd : d = .agg (xs.map (·.1)) := congrArg Prod.fst hx
      subst hd
      simp only [Rows.uptoBulk] at hb
      obtain ⟨_, ds, r1, r2, r3⟩ := tiles_rel (g := gh0 W) (B := B) (n := n) (m := q) (cs := cs) (xs := xs) (fun t cs d ps => any_rel n q t cs d ps) (fun x hx => by
        have := bulk_get (l := xs.map (·.1)) (d := x.1) (List.mem_map_of_mem hx)
        omega) fs.toList 0 0 (P.cellsOf t) hp.1 hp.2 hcl (fun i f hi => by
          have hi' : fs[i]? = some f := by simpa using hi
          have := hf i f hi'
          have hlt : i < xs.length := by rw [hxl]; exact (Array.getElem?_eq_some_iff.1 hi').1
          rw [Nat.zero_add]
          exact ⟨xs[i], List.getElem?_eq_getElem hlt, this.trans (List.getElem?_eq_getElem hlt)⟩)
      rw [List.drop_zero] at r1
      refine ⟨ds, r1, r2, ⟨by rw [r1.len, hcl], fun i f hi => ?_⟩, hcl⟩
      have := (r3 i f (by simpa using hi)).2
      simpa using this
    · cases hp
end Go.DS

/-
  Arguments of this program's types, opened.
-/
namespace Go.DS
open Go Go.Proofs Go.ChangeShapes Go.WideShapes Go.RowKit Go.Proofs.Ytejkkmiaffbjbaa Go.Deep
set_option linter.unusedVariables false
set_option linter.unusedSimpArgs false
theorem sh_at {P : Program} {B n : Nat} {fs : Array Field} {ds : List DV} (hf : ∀ (i : Nat) (f : Field), fs[i]? = some f → Sh P B n f.type ((ds.drop f.offset).take (P.cellsOf f.type))) (i : Nat) (f : Field) (hi : fs[i]? = some f) (hc : P.cellsOf f.type = 1) (d : DV) (hd : ds[f.offset]? = some d) : Sh P B n f.type [d] := by
  have := hf i f hi
  obtain ⟨hl, rfl⟩ := List.getElem?_eq_some_iff.1 hd
  rw [hc, List.drop_eq_getElem_cons hl] at this
  exact this
def In64 (m : Int) : Prop := -9223372036854775808 ≤ m ∧ m ≤ 9223372036854775807
theorem in64 {m : Int} (h : IntKind.min .i64 ≤ m ∧ m ≤ IntKind.max .i64) : In64 m := by
  have e1 : IntKind.min .i64 = -9223372036854775808 := by decide
  have e2 : IntKind.max .i64 = 9223372036854775807 := by decide
  rw [e1, e2] at h
  exact h
/-- An argument of a struct. -/
theorem arg_struct {H : Type} {enc : TypeId × Value → H} {P : Program} {W : World} {held : Bool} {B base n : Nat} {t : TypeId} {fs : Array Field} {v : Value} {d : DataW H} {ps : List MemPlace} (ht : P.underlying t = some (.struct fs)) (hp : plainTy P n t = true)
    (hv : Value.okWide P W .any base t v) (h : DataW.Trod enc P W 0 (fun _ => true) held t v d ps) (hb : Rows.uptoBulk d ≤ B + 1) : ∃ ds, RelV (gh0 W) (.agg ds) v ∧ Sh P B n t ds := by
  obtain ⟨cs, rfl, _⟩ := okWide_struct ht hv
  obtain ⟨m, hm⟩ := h
  obtain ⟨ds, r1, _, r3, _⟩ := any_rel n m t _ d ps hp hm hb
  refine ⟨ds, ?_, r3⟩
  have := RelV.agg r1.len r1.at_
  simpa [Value.cells] using this
/-- An argument of a slice. -/
theorem arg_slice {H : Type} {enc : TypeId × Value → H} {P : Program} {W : World} {held : Bool} {B base n : Nat} {t e : TypeId} {v : Value} {d : DataW H} {ps : List MemPlace} (ht : P.underlying t = some (.slice e)) (hp : plainTy P (n + 1) t = true)
    (hv : Value.okWide P W .any base t v) (h : DataW.Trod enc P W 0 (fun _ => true) held t v d ps) (hb : Rows.uptoBulk d ≤ B + 1) : ∃ l, RelV (gh0 W) (.list false (P.cellsOf e) l) v ∧ l.length ≤ B ∧ ∀ r ∈ l, Sh P B n e r := by
  obtain ⟨a, len, cap, rfl⟩ := okWide_slice ht hv
  obtain ⟨m, hm⟩ := h
  obtain ⟨ds, r1, _, r3, _⟩ := any_rel (n + 1) m t _ d ps hp hm hb
  obtain ⟨l, rfl, h1, h2⟩ := sh_slice ht r3
  refine ⟨l, ?_, h1, h2⟩
  have r1' : RelL (gh0 W) [.list false (P.cellsOf e) l] [.slice a len cap] := by simpa [Value.cells] using r1
  exact r1'.at_ 0 _ _ rfl rfl
theorem rows_map {α : Type} {Q : List DV → Prop} {F : α → List DV} {R : α → Prop} (h : ∀ r, Q r → ∃ x, r = F x ∧ R x) : ∀ l : List (List DV), (∀ r ∈ l, Q r) → ∃ m : List α, l = m.map F ∧ (∀ x ∈ m, R x) ∧ m.length = l.length
  | [], _ => ⟨[], rfl, by simp, rfl⟩
  | r :: l, hl => by
    obtain ⟨m, rfl, h2, h3⟩ := rows_map h l fun x hx => hl x (List.mem_cons_of_mem _ hx)
    obtain ⟨x, rfl, h4⟩ := h r (hl r List.mem_cons_self)
    exact ⟨x :: m, rfl, fun y hy => by rcases List.mem_cons.1 hy with rfl | hy; exact h4; exact h2 y hy, by simp⟩
structure CmdOK (B : Nat) (c : Cmd) : Prop where
  path : c.path.length ≤ B
  value : c.value.length ≤ B
  client : In64 c.client
  seq : In64 c.seq
  op : In64 c.op
  version : In64 c.version
  a : In64 c.a
  b : In64 c.b
theorem cmd_of {B n : Nat} {ds : List DV} (h : Sh Try.prog B (n + 2) 39 ds) : ∃ c : Cmd, ds = cmdL c ∧ CmdOK B c := by
  obtain ⟨hl, hf⟩ := sh_struct Try.underlying39 h
  have hl' : ds.length = 8 := hl.trans (by kernel_rfl)
  match ds, hl' with
  | [d0, d1, d2, d3, d4, d5, d6, d7], _ =>
    obtain ⟨x0, e0, r0⟩ := sh_int Try.underlying3 (sh_at hf 0 _ rfl (by kernel_rfl) d0 rfl)
    obtain ⟨x1, e1, r1⟩ := sh_int Try.underlying3 (sh_at hf 1 _ rfl (by kernel_rfl) d1 rfl)
    obtain ⟨x2, e2, r2⟩ := sh_int Try.underlying37 (sh_at hf 2 _ rfl (by kernel_rfl) d2 rfl)
    obtain ⟨x3, e3, r3⟩ := sh_str Try.underlying9 (sh_at hf 3 _ rfl (by kernel_rfl) d3 rfl)
    obtain ⟨x4, e4, r4⟩ := sh_str Try.underlying9 (sh_at hf 4 _ rfl (by kernel_rfl) d4 rfl)
    obtain ⟨x5, e5, r5⟩ := sh_int Try.underlying3 (sh_at hf 5 _ rfl (by kernel_rfl) d5 rfl)
    obtain ⟨x6, e6, r6⟩ := sh_int Try.underlying3 (sh_at hf 6 _ rfl (by kernel_rfl) d6 rfl)
    obtain ⟨x7, e7, r7⟩ := sh_int Try.underlying3 (sh_at hf 7 _ rfl (by kernel_rfl) d7 rfl)
    cases e0; cases e1; cases e2; cases e3; cases e4; cases e5; cases e6; cases e7
    exact ⟨⟨x0, x1, x2, x3, x4, x5, x6, x7⟩, rfl, r3, r4, in64 r0, in64 r1, in64 r2, in64 r5, in64 r6, in64 r7⟩
theorem arg_cmd {H : Type} {enc : TypeId × Value → H} {W : World} {held : Bool} {B base : Nat} {v : Value} {d : DataW H} {ps : List MemPlace} (hv : Value.okWide Try.prog W .any base 39 v)
    (h : DataW.Trod enc Try.prog W 0 (fun _ => true) held 39 v d ps) (hb : Rows.uptoBulk d ≤ B + 1) : ∃ c : Cmd, RelV (gh0 W) (cmdD c) v ∧ CmdOK B c := by
  obtain ⟨ds, r1, r2⟩ := arg_struct (n := 2) Try.underlying39 (by kernel_rfl) hv h hb
  obtain ⟨c, rfl, hc⟩ := cmd_of r2
  exact ⟨c, r1, hc⟩
theorem arg_cmds {H : Type} {enc : TypeId × Value → H} {W : World} {held : Bool} {B base : Nat} {v : Value} {d : DataW H} {ps : List MemPlace} (hv : Value.okWide Try.prog W .any base 41 v)
    (h : DataW.Trod enc Try.prog W 0 (fun _ => true) held 41 v d ps) (hb : Rows.uptoBulk d ≤ B + 1) : ∃ l : List Cmd, RelV (gh0 W) (.list false 8 (cms l)) v ∧ l.length ≤ B ∧ ∀ c ∈ l, CmdOK B c := by
  obtain ⟨l, r1, r2, r3⟩ := arg_slice (n := 2) Try.underlying41 (by kernel_rfl) hv h hb
  obtain ⟨m, rfl, h1, h2⟩ := rows_map (fun r hr => cmd_of (n := 0) hr) l r3
  refine ⟨m, ?_, by omega, h1⟩
  have e : Try.prog.cellsOf 39 = 8 := by kernel_rfl
  rwa [e] at r1
end Go.DS

/-
  Walks: the functions of touch.
-/
namespace Go.DS
open Go Go.Proofs
set_option maxRecDepth 100000
set_option linter.unusedVariables false
set_option linter.unusedSimpArgs false
@[go_sem] theorem ok72 : calleeOK Try.prog 72 = true := by kernel_rfl
@[go_sem] theorem ex72 : (cfg.ext 72).isSome = true := rfl
def cd63 : Cd := .seq (R [c0 4 (.tk (.c (kn 2)))] [0, 1]) (.seq (R [c0 5 (.tk (.c (kn 2)))] [0, 1, 5]) (.seq (.seq (R [c0 8 (.mv (.s 1)), c0 9 (.len 1 (.s 8)), c0 10 (.mv (.c (ki .i64 0)))] [0, 5, 8, 9, 10]) (.block 0 (LP [0, 5, 8, 9, 10] (.seq (R [c0 11 (.bin .lss .any (.s 10) (.s 9))] [0, 5, 8, 9, 10, 11]) (.seq (.ite (.s 11) (.skip) (.exit 0)) (.seq (.block 1 (.seq (R [c0 12 (.ixp 1 (.s 8) (.s 10)), c0 13 (.ldx true false 1 (.s 12)), c0 7 (.tk (.s 13))] [0, 5, 7, 8, 9, 10]) (R [c0 14 (.tk (.s 5)), c0 15 (.mv (.s 0)), c0 16 (.mv (.s 7)), c0 17 (.bld [ks [], ki .u8 0] [(0, 1, (.s 15)), (1, 1, (.s 16))]), c0 18 (.bsl 2 [(.s 17)]), c0 19 (.app 2 27 false (.s 14) (.s 18)), c0 5 (.tk (.s 19))] [0, 5, 8, 9, 10]))) (R [c0 20 (.bin .add .any (.s 10) (.c (ki .i64 1))), c0 10 (.mv (.s 20))] [0, 5, 8, 9, 10]))))))) (.seq (R [c0 21 (.tk (.s 5)), c0 4 (.tk (.s 21))] [4]) (.ret))))
theorem fun63 : Fun Try.prog cfg 63 22 cd63 [.s 4] := ⟨rfl, Try.f63, _, Try.func63, rfl, rfl, by kernel_rfl, by kernel_rfl⟩
@[go_sem] theorem ok63 : calleeOK Try.prog 63 = true := by kernel_rfl
@[go_sem] theorem ex63 : (cfg.ext 63).isSome = false := rfl
def cd64 : Cd := .seq (R [c0 2 (.tk (.c (kn 2)))] [0]) (.seq (R [c0 3 (.tk (.c (ki .i64 0)))] [0, 3]) (.seq (.seq (R [c0 9 (.mv (.s 0)), c0 10 (.len 1 (.s 9)), c0 11 (.mv (.c (ki .i64 0)))] [0, 3, 9, 10, 11]) (.block 0 (LP [0, 3, 9, 10, 11] (.seq (R [c0 12 (.bin .lss .any (.s 11) (.s 10))] [0, 3, 9, 10, 11, 12]) (.seq (.ite (.s 12) (.skip) (.exit 0)) (.seq (.block 1 (.seq (R [c0 13 (.ixp 1 (.s 9) (.s 11)), c0 14 (.ldx true false 1 (.s 13)), c0 5 (.tk (.s 14))] [0, 3, 5, 9, 10, 11]) (.seq (R [c0 15 (.mv (.s 3)), c0 16 (.mv (.s 5)), c0 17 (.len 1 (.s 16)), c0 18 (.bin .add .any (.s 15) (.s 17)), c0 3 (.tk (.s 18))] [0, 3, 9, 10, 11]) (.seq (R [c0 19 (.mv (.s 3)), cb 20 (.bin .lss .any (.s 19) (.c (ki .i64 0)))] [0, 3, 9, 10, 11, 20]) (.ite (.s 20) (R [c0 21 (.mki 9 (.c (ks [108, 101, 110, 32, 111, 117, 116, 32, 111, 102, 32, 114, 97, 110, 103, 101]))), cn (.bad)] [0, 3, 9, 10, 11]) (.skip)))))) (R [c0 22 (.bin .add .any (.s 11) (.c (ki .i64 1))), c0 11 (.mv (.s 22))] [0, 3, 9, 10, 11]))))))) (.seq (R [c0 23 (.mv (.s 3)), c0 24 (.call (some true) (.c (kf 72)) [(.c (.sc (.slice none 0 0))), (.s 23)]), c0 6 (.tk (.s 24))] [0, 6]) (.seq (.seq (R [c0 25 (.mv (.s 0)), c0 26 (.len 1 (.s 25)), c0 27 (.mv (.c (ki .i64 0)))] [6, 25, 26, 27]) (.block 2 (LP [6, 25, 26, 27] (.seq (R [c0 28 (.bin .lss .any (.s 27) (.s 26))] [6, 25, 26, 27, 28]) (.seq (.ite (.s 28) (.skip) (.exit 2)) (.seq (.block 3 (.seq (R [c0 29 (.ixp 1 (.s 25) (.s 27)), c0 30 (.ldx true false 1 (.s 29)), c0 8 (.tk (.s 30))] [6, 8, 25, 26, 27]) (R [c0 31 (.tk (.s 6)), c0 32 (.mv (.s 8)), c0 33 (.app 2 27 false (.s 31) (.s 32)), c0 6 (.tk (.s 33))] [6, 25, 26, 27]))) (R [c0 34 (.bin .add .any (.s 27) (.c (ki .i64 1))), c0 27 (.mv (.s 34))] [6, 25, 26, 27]))))))) (.seq (R [c0 35 (.tk (.s 6)), c0 2 (.tk (.s 35))] [2]) (.ret))))))
theorem fun64 : Fun Try.prog cfg 64 36 cd64 [.s 2] := ⟨rfl, Try.f64, _, Try.func64, rfl, rfl, by kernel_rfl, by kernel_rfl⟩
@[go_sem] theorem ok64 : calleeOK Try.prog 64 = true := by kernel_rfl
@[go_sem] theorem ex64 : (cfg.ext 64).isSome = false := rfl
def cd65 : Cd := .seq (R [cb 4 (.tk (.c (kb false)))] [0, 1]) (.seq (R [c0 5 (.mv (.s 0)), c0 6 (.mv (.s 1)), c0 7 (.call none (.c (kf 73)) [(.s 5), (.s 6)]), cb 8 (.bin .geq .any (.s 7) (.c (ki .i64 0))), cb 4 (.tk (.s 8))] [4]) (.ret))
theorem fun65 : Fun Try.prog cfg 65 9 cd65 [.s 4] := ⟨rfl, Try.f65, _, Try.func65, rfl, rfl, by kernel_rfl, by kernel_rfl⟩
@[go_sem] theorem ok65 : calleeOK Try.prog 65 = true := by kernel_rfl
@[go_sem] theorem ex65 : (cfg.ext 65).isSome = false := rfl
def cd73 : Cd := .seq (R [c0 4 (.tk (.c (ki .i64 0)))] [0, 1]) (.seq (.seq (R [c0 6 (.mv (.s 0)), c0 7 (.len 1 (.s 6)), c0 8 (.mv (.c (ki .i64 0)))] [0, 1, 7, 8]) (.block 0 (LP [0, 1, 7, 8] (.seq (R [c0 9 (.bin .lss .any (.s 8) (.s 7))] [0, 1, 7, 8, 9]) (.seq (.ite (.s 9) (.skip) (.exit 0)) (.seq (.block 1 (.seq (R [c0 10 (.tk (.s 8)), c0 5 (.tk (.s 10))] [0, 1, 5, 7, 8]) (.seq (R [c0 11 (.mv (.s 1)), c0 12 (.mv (.s 0)), c0 13 (.mv (.s 5)), c0 14 (.ixp 2 (.s 12) (.s 13)), c0 15 (.ld true 2 (.s 14)), cb 16 (.call none (.s 11) [(.s 15)])] [0, 1, 5, 7, 8, 16]) (.ite (.s 16) (.seq (R [c0 17 (.tk (.s 5)), c0 4 (.tk (.s 17))] [4]) (.ret)) (.skip))))) (R [c0 18 (.bin .add .any (.s 8) (.c (ki .i64 1))), c0 8 (.mv (.s 18))] [0, 1, 7, 8]))))))) (.seq (R [c0 4 (.tk (.c (ki .i64 (-1))))] [4]) (.ret)))
theorem fun73 : Fun Try.prog cfg 73 19 cd73 [.s 4] := ⟨rfl, Try.f73, _, Try.func73, rfl, rfl, by kernel_rfl, by kernel_rfl⟩
@[go_sem] theorem ok73 : calleeOK Try.prog 73 = true := by kernel_rfl
@[go_sem] theorem ex73 : (cfg.ext 73).isSome = false := rfl
def cd66 : Cd := .seq (R [c0 2 (.new false (.s 0)), cb 3 (.tk (.c (kb false)))] [1, 2]) (.seq (R [c0 4 (.ld false 1 (.s 1)), c0 5 (.ld true 2 (.s 2)), cb 6 (.lkp [2, 0] true 2 (kb false) false (.s 4) (.s 5)), cb 3 (.tk (.s 6))] [2, 3]) (.ret))
theorem fun66 : Fun Try.prog cfg 66 7 cd66 [.s 3] := ⟨rfl, Try.f66, _, Try.func66, rfl, rfl, by kernel_rfl, by kernel_rfl⟩
@[go_sem] theorem ok66 : calleeOK Try.prog 66 = true := by kernel_rfl
@[go_sem] theorem ex66 : (cfg.ext 66).isSome = false := rfl
def cd54 : Cd := .seq (R [c0 2 (.new false (.s 0)), c0 3 (.new false (.s 1)), cb 4 (.tk (.c (kb false)))] [2, 3, 5, 7]) (.seq (R [c0 8 (.mkm), c0 5 (.new false (.c (.sc (.map none)))), cn (.st 1 (.s 5) (.s 8))] [2, 3, 5, 7]) (.seq (.seq (R [c0 9 (.mov 0 (.s 3)), c0 10 (.ld false 1 (.s 9)), c0 11 (.mov 1 (.s 3)), c0 12 (.ld false 1 (.s 11)), c0 13 (.bsl 1 [(.s 10), (.s 12)]), c0 14 (.call none (.c (kf 64)) [(.s 13)]), c0 15 (.len 1 (.s 14)), c0 16 (.mv (.c (ki .i64 0)))] [2, 3, 5, 7, 14, 15, 16]) (.block 0 (LP [2, 3, 5, 7, 14, 15, 16] (.seq (R [c0 17 (.bin .lss .any (.s 16) (.s 15))] [2, 3, 5, 7, 14, 15, 16, 17]) (.seq (.ite (.s 17) (.skip) (.exit 0)) (.seq (.block 1 (.seq (R [c0 18 (.ixp 2 (.s 14) (.s 16)), c0 19 (.ldx false true 2 (.s 18)), c0 7 (.new false (.c (.agg [ks [], ki .u8 0]))), cn (.st 2 (.s 7) (.s 19))] [2, 3, 5, 7, 14, 15, 16]) (R [c0 20 (.ld false 1 (.s 5)), c0 21 (.ld true 2 (.s 7)), cn (.mup [2, 0] true 2 (.s 20) (.s 21) (.c (kb true)))] [2, 3, 5, 7, 14, 15, 16]))) (R [c0 22 (.bin .add .any (.s 16) (.c (ki .i64 1))), c0 16 (.mv (.s 22))] [2, 3, 5, 7, 14, 15, 16]))))))) (.seq (R [c0 23 (.mov 1 (.s 2)), c0 24 (.ld false 1 (.s 23)), c0 25 (.mkf (.func 66) 0 [(.s 5)]), cb 26 (.call none (.c (kf 65)) [(.s 24), (.s 25)]), cb 4 (.tk (.s 26))] [2, 3, 4, 5, 7]) (.ret))))
theorem fun54 : Fun Try.prog cfg 54 27 cd54 [.s 4] := ⟨rfl, Try.f54, _, Try.func54, rfl, rfl, by kernel_rfl, by kernel_rfl⟩
@[go_sem] theorem ok54 : calleeOK Try.prog 54 = true := by kernel_rfl
@[go_sem] theorem ex54 : (cfg.ext 54).isSome = false := rfl
def cd53 : Cd := .seq (R [c0 1 (.new false (.s 0)), c0 2 (.new false (.c (.agg [kn 2, kn 2])))] [1, 2]) (.seq (R [c0 6 (.mov 3 (.s 1)), c0 7 (.ldx true false 1 (.s 6)), c0 3 (.tk (.s 7))] [1, 2, 3]) (.seq (.seq (R [c0 8 (.mv (.s 3)), cb 9 (.call none (.c (kf 14)) [(.s 8)]), cb 10 (.un .not (.s 9))] [1, 2, 3, 10]) (.ite (.s 10) (.seq (R [c0 11 (.bld [kz 2, kz 2] []), cn (.st 2 (.s 2) (.s 11))] [1, 2]) (.ret)) (.skip))) (.seq (.seq (R [c0 12 (.mov 2 (.s 1)), c0 13 (.ld false 1 (.s 12))] [1, 2, 3, 13]) (.block 0 (.seq (R [cb 15 (.bin .eql .any (.s 13) (.c (ki .i64 4))), cb 14 (.tk (.s 15))] [1, 2, 3, 13, 14]) (.ite (.s 14) (.seq (R [c0 16 (.mv (.s 3)), c0 17 (.bsl 1 [(.c (ki .u8 101)), (.c (ki .u8 118))]), c0 18 (.call none (.c (kf 63)) [(.s 16), (.s 17)]), c0 19 (.bld [kz 2, kz 2] [(0, 1, (.s 18))]), cn (.st 2 (.s 2) (.s 19))] [1, 2]) (.ret)) (.seq (R [cb 21 (.bin .eql .any (.s 13) (.c (ki .i64 5))), cb 20 (.tk (.s 21))] [1, 2, 3, 20]) (.ite (.s 20) (.seq (R [c0 22 (.mv (.s 3)), c0 23 (.bsl 1 [(.c (ki .u8 101)), (.c (ki .u8 107))]), c0 24 (.call none (.c (kf 63)) [(.s 22), (.s 23)]), c0 25 (.bld [kz 2, kz 2] [(0, 1, (.s 24))]), cn (.st 2 (.s 2) (.s 25))] [1, 2]) (.ret)) (.skip))))))) (.seq (R [c0 26 (.mv (.s 3)), c0 27 (.call none (.c (kf 21)) [(.s 26)]), c0 4 (.tk (.s 27))] [1, 2, 3, 4]) (.seq (R [c0 28 (.mv (.s 4)), cb 29 (.bin .eql .any (.s 28) (.c (ks []))), cb 5 (.tk (.s 29))] [1, 2, 3, 4, 5]) (.seq (.block 1 (.seq (R [c0 31 (.mov 2 (.s 1)), c0 32 (.ld false 1 (.s 31)), cb 33 (.bin .eql .any (.s 32) (.c (ki .i64 1))), cb 34 (.mv (.s 33)), ch 35 34 true (.mv (.s 5)), cb 36 (.pick (.s 34) (.s 35) (.c (kb false))), cb 30 (.tk (.s 36))] [1, 2, 3, 4, 5, 30]) (.ite (.s 30) (.seq (R [c0 37 (.mv (.s 3)), c0 38 (.bsl 1 [(.c (ki .u8 101))]), c0 39 (.call none (.c (kf 63)) [(.s 37), (.s 38)]), c0 40 (.bld [kz 2, kz 2] [(0, 1, (.s 39))]), cn (.st 2 (.s 2) (.s 40))] [1, 2]) (.ret)) (.seq (R [cb 42 (.tk (.s 5)), cb 41 (.tk (.s 42))] [1, 2, 3, 4, 41]) (.ite (.s 41) (.skip) (.seq (R [c0 44 (.mov 2 (.s 1)), c0 45 (.ld false 1 (.s 44)), cb 46 (.bin .eql .any (.s 45) (.c (ki .i64 1))), cb 43 (.tk (.s 46))] [1, 2, 3, 4, 43]) (.ite (.s 43) (.seq (R [c0 47 (.mv (.s 4)), c0 48 (.bsl 1 [(.c (ki .u8 101))]), c0 49 (.call none (.c (kf 63)) [(.s 47), (.s 48)]), c0 50 (.mv (.s 3)), c0 51 (.bsl 1 [(.c (ki .u8 101))]), c0 52 (.call none (.c (kf 63)) [(.s 50), (.s 51)]), c0 53 (.app 2 27 false (.s 49) (.s 52)), c0 54 (.mv (.s 3)), c0 55 (.bsl 1 [(.c (ki .u8 101)), (.c (ki .u8 118))]), c0 56 (.call none (.c (kf 63)) [(.s 54), (.s 55)]), c0 57 (.mv (.s 4)), c0 58 (.bsl 1 [(.c (ki .u8 107))]), c0 59 (.call none (.c (kf 63)) [(.s 57), (.s 58)]), c0 60 (.app 2 27 false (.s 56) (.s 59)), c0 61 (.bld [kz 2, kz 2] [(0, 1, (.s 53)), (1, 1, (.s 60))]), cn (.st 2 (.s 2) (.s 61))] [1, 2]) (.ret)) (.seq (R [c0 63 (.mov 2 (.s 1)), c0 64 (.ld false 1 (.s 63)), cb 65 (.bin .eql .any (.s 64) (.c (ki .i64 2))), cb 62 (.tk (.s 65))] [1, 2, 3, 4, 62]) (.ite (.s 62) (.seq (R [c0 66 (.mv (.s 3)), c0 67 (.bsl 1 [(.c (ki .u8 101)), (.c (ki .u8 107))]), c0 68 (.call none (.c (kf 63)) [(.s 66), (.s 67)]), c0 69 (.mv (.s 3)), c0 70 (.bsl 1 [(.c (ki .u8 101)), (.c (ki .u8 118))]), c0 71 (.call none (.c (kf 63)) [(.s 69), (.s 70)]), c0 72 (.mv (.s 4)), c0 73 (.bsl 1 [(.c (ki .u8 107))]), c0 74 (.call none (.c (kf 63)) [(.s 72), (.s 73)]), c0 75 (.app 2 27 false (.s 71) (.s 74)), c0 76 (.bld [kz 2, kz 2] [(0, 1, (.s 68)), (1, 1, (.s 75))]), cn (.st 2 (.s 2) (.s 76))] [1, 2]) (.ret)) (.seq (R [c0 78 (.mov 2 (.s 1)), c0 79 (.ld false 1 (.s 78)), cb 80 (.bin .eql .any (.s 79) (.c (ki .i64 3))), cb 77 (.tk (.s 80))] [1, 2, 3, 77]) (.ite (.s 77) (.seq (R [c0 81 (.mv (.s 3)), c0 82 (.bsl 1 [(.c (ki .u8 101))]), c0 83 (.call none (.c (kf 63)) [(.s 81), (.s 82)]), c0 84 (.mv (.s 3)), c0 85 (.bsl 1 [(.c (ki .u8 118))]), c0 86 (.call none (.c (kf 63)) [(.s 84), (.s 85)]), c0 87 (.bld [kz 2, kz 2] [(0, 1, (.s 83)), (1, 1, (.s 86))]), cn (.st 2 (.s 2) (.s 87))] [1, 2]) (.ret)) (.seq (R [c0 89 (.mov 2 (.s 1)), c0 90 (.ld false 1 (.s 89)), cb 91 (.bin .eql .any (.s 90) (.c (ki .i64 6))), cb 88 (.tk (.s 91))] [1, 2, 3, 88]) (.ite (.s 88) (.seq (R [c0 92 (.mv (.s 3)), c0 93 (.bsl 1 [(.c (ki .u8 101)), (.c (ki .u8 118))]), c0 94 (.call none (.c (kf 63)) [(.s 92), (.s 93)]), c0 95 (.mv (.s 3)), c0 96 (.bsl 1 [(.c (ki .u8 118))]), c0 97 (.call none (.c (kf 63)) [(.s 95), (.s 96)]), c0 98 (.bld [kz 2, kz 2] [(0, 1, (.s 94)), (1, 1, (.s 97))]), cn (.st 2 (.s 2) (.s 98))] [1, 2]) (.ret)) (.skip)))))))))))))) (.seq (R [c0 99 (.bld [kz 2, kz 2] []), cn (.st 2 (.s 2) (.s 99))] [1, 2]) (.ret))))))))
theorem fun53 : Fun Try.prog cfg 53 100 cd53 [.b 2 true 2] := ⟨rfl, Try.f53, _, Try.func53, rfl, rfl, by kernel_rfl, by kernel_rfl⟩
@[go_sem] theorem ok53 : calleeOK Try.prog 53 = true := by kernel_rfl
@[go_sem] theorem ex53 : (cfg.ext 53).isSome = false := rfl
def cd35 : Cd := .seq (R [c0 1 (.new false (.s 0)), c0 2 (.tk (.c (kn 2)))] [1]) (.seq (R [c0 3 (.ld true 8 (.s 1)), c0 4 (.call none (.c (kf 53)) [(.s 3)]), c0 5 (.fld 0 false 1 (.s 4)), c0 2 (.tk (.s 5))] [1, 2]) (.ret))
theorem fun35 : Fun Try.prog cfg 35 6 cd35 [.s 2] := ⟨rfl, Try.f35, _, Try.func35, rfl, rfl, by kernel_rfl, by kernel_rfl⟩
@[go_sem] theorem ok35 : calleeOK Try.prog 35 = true := by kernel_rfl
@[go_sem] theorem ex35 : (cfg.ext 35).isSome = false := rfl
def cd36 : Cd := .seq (R [c0 1 (.new false (.s 0)), c0 2 (.tk (.c (kn 2)))] [1]) (.seq (R [c0 3 (.ld true 8 (.s 1)), c0 4 (.call none (.c (kf 53)) [(.s 3)]), c0 5 (.fld 1 false 1 (.s 4)), c0 2 (.tk (.s 5))] [1, 2]) (.ret))
theorem fun36 : Fun Try.prog cfg 36 6 cd36 [.s 2] := ⟨rfl, Try.f36, _, Try.func36, rfl, rfl, by kernel_rfl, by kernel_rfl⟩
@[go_sem] theorem ok36 : calleeOK Try.prog 36 = true := by kernel_rfl
@[go_sem] theorem ex36 : (cfg.ext 36).isSome = false := rfl
def cd37 : Cd := .seq (R [c0 2 (.new false (.s 0)), c0 3 (.new false (.s 1)), cb 4 (.tk (.c (kb false)))] [2, 3, 5, 6]) (.seq (RD [cd (some 7) false none (.ld true 8 (.s 2)) false false [2], cd (some 8) false none (.call none (.c (kf 53)) [(.s 7)]) false false [7], cd (some 9) false none (.ld true 8 (.s 3)) false false [3], cd (some 10) false none (.call none (.c (kf 53)) [(.s 9)]) false false [9], cd (some 5) false none (.new false (.c (.agg [kn 2, kn 2]))) true false [], cd (some 6) false none (.new false (.c (.agg [kn 2, kn 2]))) true false [], cd none false none (.st 2 (.s 5) (.s 8)) false false [5, 8], cd none false none (.st 2 (.s 6) (.s 10)) false false [6, 10]] [2, 3, 5, 6] [3]) (.seq (R [c0 11 (.ld true 2 (.s 5)), c0 12 (.ld true 2 (.s 6)), cb 13 (.call none (.c (kf 54)) [(.s 11), (.s 12)]), cb 14 (.mv (.s 13)), cg 15 14 false (.ld true 2 (.s 6)), cg 16 14 false (.ld true 2 (.s 5)), ch 17 14 false (.call none (.c (kf 54)) [(.s 15), (.s 16)]), cb 18 (.pick (.s 14) (.c (kb true)) (.s 17)), cb 4 (.tk (.s 18))] [2, 3, 4, 5, 6]) (.ret)))
theorem fun37 : Fun Try.prog cfg 37 19 cd37 [.s 4] := ⟨rfl, Try.f37, _, Try.func37, rfl, rfl, by kernel_rfl, by kernel_rfl⟩
@[go_sem] theorem ok37 : calleeOK Try.prog 37 = true := by kernel_rfl
@[go_sem] theorem ex37 : (cfg.ext 37).isSome = false := rfl
def cd41 : Cd := .seq (R [c0 1 (.new false (.s 0)), cb 2 (.tk (.c (kb false)))] [1]) (.seq (R [c0 3 (.mov 2 (.s 1)), c0 4 (.ld false 1 (.s 3)), cb 5 (.bin .leq .any (.c (ki .i64 7)) (.s 4)), cb 6 (.mv (.s 5)), cg 7 6 true (.mov 2 (.s 1)), cg 8 6 true (.ld false 1 (.s 7)), ch 9 6 true (.bin .leq .any (.s 8) (.c (ki .i64 9))), cb 10 (.pick (.s 6) (.s 9) (.c (kb false))), cb 2 (.tk (.s 10))] [1, 2]) (.ret))
theorem fun41 : Fun Try.prog cfg 41 11 cd41 [.s 2] := ⟨rfl, Try.f41, _, Try.func41, rfl, rfl, by kernel_rfl, by kernel_rfl⟩
@[go_sem] theorem ok41 : calleeOK Try.prog 41 = true := by kernel_rfl
@[go_sem] theorem ex41 : (cfg.ext 41).isSome = false := rfl
def cd39 : Cd := .seq (R [c0 2 (.new false (.s 0)), c0 3 (.new false (.s 1)), cb 4 (.tk (.c (kb false)))] [2, 3]) (.seq (.block 0 (.seq (R [c0 6 (.mov 2 (.s 2)), c0 7 (.ld false 1 (.s 6)), cb 8 (.bin .eql .any (.s 7) (.c (ki .i64 0))), cb 9 (.mv (.s 8)), cg 10 9 false (.mov 2 (.s 3)), cg 11 9 false (.ld false 1 (.s 10)), ch 12 9 false (.bin .eql .any (.s 11) (.c (ki .i64 0))), cb 13 (.pick (.s 9) (.c (kb true)) (.s 12)), cb 5 (.tk (.s 13))] [2, 3, 5]) (.ite (.s 5) (.seq (R [cb 4 (.tk (.c (kb false)))] [2, 3, 4]) (.ret)) (.seq (R [c0 15 (.ld true 8 (.s 2)), cb 16 (.call none (.c (kf 41)) [(.s 15)]), cb 17 (.mv (.s 16)), cg 18 17 false (.ld true 8 (.s 3)), ch 19 17 false (.call none (.c (kf 41)) [(.s 18)]), cb 20 (.pick (.s 17) (.c (kb true)) (.s 19)), cb 21 (.mv (.s 20)), cg 22 21 false (.mov 0 (.s 2)), cg 23 21 false (.ld false 1 (.s 22)), cg 24 21 false (.mov 0 (.s 3)), cg 25 21 false (.ld false 1 (.s 24)), ch 26 21 false (.bin .eql .any (.s 23) (.s 25)), cb 27 (.pick (.s 21) (.c (kb true)) (.s 26)), cb 14 (.tk (.s 27))] [2, 3, 14]) (.ite (.s 14) (.seq (R [cb 4 (.tk (.c (kb true)))] [2, 3, 4]) (.ret)) (.skip)))))) (.seq (R [c0 28 (.ld true 8 (.s 2)), c0 29 (.ld true 8 (.s 3)), cb 30 (.call none (.c (kf 37)) [(.s 28), (.s 29)]), cb 4 (.tk (.s 30))] [2, 3, 4]) (.ret)))
theorem fun39 : Fun Try.prog cfg 39 31 cd39 [.s 4] := ⟨rfl, Try.f39, _, Try.func39, rfl, rfl, by kernel_rfl, by kernel_rfl⟩
@[go_sem] theorem ok39 : calleeOK Try.prog 39 = true := by kernel_rfl
@[go_sem] theorem ex39 : (cfg.ext 39).isSome = false := rfl
def cd32 : Cd := .seq (R [cb 2 (.tk (.c (kb false)))] [0]) (.seq (.seq (R [c0 3 (.tk (.c (ki .i64 0)))] [0, 3]) (.block 0 (LP [0, 3] (.seq (.seq (R [c0 4 (.mv (.s 3)), c0 5 (.mv (.s 0)), c0 6 (.len 1 (.s 5)), cb 7 (.bin .lss .any (.s 4) (.s 6)), cb 8 (.mv (.s 7)), cg 9 8 true (.mv (.s 3)), ch 10 8 true (.bin .leq .any (.s 9) (.c (ki .i64 60))), cb 11 (.pick (.s 8) (.s 10) (.c (kb false)))] [0, 3, 11]) (.ite (.s 11) (.skip) (.exit 0))) (.seq (.block 1 (.seq (R [c0 14 (.mv (.s 0)), c0 15 (.mv (.s 3)), c0 16 (.ixp 8 (.s 14) (.s 15)), c0 17 (.mov 3 (.s 16)), c0 18 (.ld false 1 (.s 17)), c0 19 (.len 0 (.s 18)), cb 20 (.bin .gtr .any (.s 19) (.c (ki .i64 300))), cb 21 (.mv (.s 20)), cg 22 21 false (.mv (.s 0)), cg 23 21 false (.mv (.s 3)), cg 24 21 false (.ixp 8 (.s 22) (.s 23)), cg 25 21 false (.mov 4 (.s 24)), cg 26 21 false (.ld false 1 (.s 25)), cg 27 21 false (.len 0 (.s 26)), ch 28 21 false (.bin .gtr .any (.s 27) (.c (ki .i64 300))), cb 29 (.pick (.s 21) (.c (kb true)) (.s 28))] [0, 3, 29]) (.ite (.s 29) (.seq (R [cb 2 (.tk (.c (kb true)))] [2]) (.ret)) (.skip)))) (R [c0 12 (.mv (.s 3)), c0 13 (.bin .add .any (.s 12) (.c (ki .i64 1))), c0 3 (.tk (.s 13))] [0, 3])))))) (.seq (R [c0 30 (.mv (.s 0)), c0 31 (.len 1 (.s 30)), cb 32 (.bin .gtr .any (.s 31) (.c (ki .i64 60))), cb 2 (.tk (.s 32))] [2]) (.ret)))
theorem fun32 : Fun Try.prog cfg 32 33 cd32 [.s 2] := ⟨rfl, Try.f32, _, Try.func32, rfl, rfl, by kernel_rfl, by kernel_rfl⟩
@[go_sem] theorem ok32 : calleeOK Try.prog 32 = true := by kernel_rfl
@[go_sem] theorem ex32 : (cfg.ext 32).isSome = false := rfl
variable {h : DHeap}
theorem tof_lim (own : Bool) (p : Str) (l : List UInt8) (hl : l.length ≤ 100) : lim Try.prog cfg 63 [vs p, .list own 1 (bys l)] h = some (.list true 2 (cls (ofP p l)), h) := by
  refine lim_funp fun63 rfl (by simp) (by simp [heapFree, free_bys]) (by simp [heapFree, free_cls]) ?_
  delta cd63
  simp -implicitDefEqProofs -dsimp only [go_sem]
  refine wp_for (σ := Nat) (fun k => [(0, vs p), (5, .list true 2 (cls (ofP p (l.take k)))), (8, .list false 1 (bys l)), (9, vi (l.length : Nat)), (10, vi (k : Nat))]) (fun _ => []) (fun k => l.length - k) (fun k => k ≤ l.length) 0 (by simp) rfl rfl ?_
  rintro k hk N hN
  have hlen : (ofP p (l.take k)).length = k := by simp [ofP]; omega
  by_cases hlt : k < l.length
  · have h1 : ((k : Int) < (l.length : Int)) := by omega
    have hm : (k + 1) * 27 ≤ maxLenD := by unfold maxLenD; omega
    simp -implicitDefEqProofs -dsimp only [go_sem, h1, hlen, hm]
    refine ⟨hlt, hN (k + 1) _ (by omega) (by omega) ?_⟩
    have e : cls (ofP p (l.take k)) ++ [[vs p, DV.sc (Value.int .u8 l[k].toNat)]] = cls (ofP p (l.take (k + 1))) := by
      rw [List.take_succ_eq_append_getElem hlt]; simp only [cls, ofP, List.map_append, List.map_cons, List.map_nil]
    simp -implicitDefEqProofs -dsimp only [go_sem, wrap_succ (show k < 9223372036854775807 by omega), e]
  · have h1 : ¬ ((k : Int) < (l.length : Int)) := by omega
    have : k = l.length := by omega
    subst this
    simp -implicitDefEqProofs -dsimp only [go_sem, h1, List.take_length]

/-- What lies in rows of rows. -/
def clss (ls : List (List Cel)) : List (List DV) := ls.map fun l => [.list false 2 (cls l)]
@[go_sem] theorem clss_len (l : List (List Cel)) : (clss l).length = l.length := by simp [clss]
@[go_sem high] theorem idxP_clss (l : List (List Cel)) (i : Int) (N : List DV → Prop) : IdxP (clss l) i N = IdxP l i fun c => N [.list false 2 (cls c)] := idxP_map
theorem free_clss : ∀ l : List (List Cel), heapFree.alls (clss l) = true
  | [] => rfl
  | s :: l => by
    have := free_clss l
    simp only [clss] at this
    simp only [clss, List.map_cons, heapFree.alls, heapFree.all, heapFree, this, free_cls, Bool.and_self]
theorem grow_lim (n : Nat) (hn : n ≤ 1048576) : lim Try.prog cfg 72 [.sc (.slice none 0 0), vi (n : Nat)] h = some (.list true 2 (cls []), h) := by
  refine lim_ext rfl ?_ rfl
  show (if (0 : Int) ≤ n ∧ (n : Int) ≤ 1048576 then some (DV.list true 2 [], h) else none) = _
  rw [if_pos (by omega)]; rfl
theorem flat_le {ls : List (List Cel)} {l : List Cel} (h : l ∈ ls) : l.length ≤ ls.flatten.length := by
  induction ls with
  | nil => cases h
  | cons a ls ih =>
    simp only [List.flatten_cons, List.length_append]
    rcases List.mem_cons.1 h with rfl | h
    · omega
    · have := ih h; omega
theorem flat_take (ls : List (List Cel)) (k : Nat) (hk : k < ls.length) : (ls.take (k + 1)).flatten = (ls.take k).flatten ++ ls[k] := by
  rw [List.take_succ_eq_append_getElem hk, List.flatten_append, List.flatten_cons, List.flatten_nil, List.append_nil]
theorem flat_take_le (ls : List (List Cel)) (k : Nat) : (ls.take k).flatten.length ≤ ls.flatten.length := by
  conv => rhs; rw [← List.take_append_drop k ls]
  rw [List.flatten_append, List.length_append]
  omega
theorem concat_lim (own : Bool) (ls : List (List Cel)) (hl : ls.length ≤ 1000) (hs : ls.flatten.length ≤ 1000000) : lim Try.prog cfg 64 [.list own 1 (clss ls)] h = some (.list true 2 (cls ls.flatten), h) := by
  refine lim_funp fun64 rfl (by simp) (by simp [heapFree, free_clss]) (by simp [heapFree, free_cls]) ?_
  delta cd64
  simp -implicitDefEqProofs -dsimp only [go_sem]
  refine wp_for (σ := Nat) (fun k => [(0, .list false 1 (clss ls)), (3, vi ((ls.take k).flatten.length : Nat)), (9, .list false 1 (clss ls)), (10, vi (ls.length : Nat)), (11, vi (k : Nat))]) (fun _ => []) (fun k => ls.length - k) (fun k => k ≤ ls.length) 0 (by simp) rfl rfl ?_
  rintro k hk N hN
  by_cases hlt : k < ls.length
  · have h1 : ((k : Int) < (ls.length : Int)) := by omega
    have h3 := flat_take ls k hlt
    have h4 := flat_take_le ls (k + 1)
    have h2 : IntKind.wrap .i64 (((ls.take k).flatten.length : Int) + (ls[k].length : Int)) = ((ls.take (k + 1)).flatten.length : Int) := by
      rw [h3] at h4 ⊢
      simp only [List.length_append] at h4 ⊢
      rw [wrap64 (by omega) (by omega)]; omega
    have h5 : ¬ (((ls.take (k + 1)).flatten.length : Int) < 0) := by omega
    simp -implicitDefEqProofs -dsimp only [go_sem, h1, hlt, h2, h5]
    refine hN (k + 1) _ (by omega) (by omega) ?_
    simp -implicitDefEqProofs -dsimp only [go_sem, wrap_succ (show k < 9223372036854775807 by omega)]
  · have h1 : ¬ ((k : Int) < (ls.length : Int)) := by omega
    have : k = ls.length := by omega
    subst this
    have hg := grow_lim (h := []) ls.flatten.length (by omega)
    simp -implicitDefEqProofs -dsimp only [go_sem, h1, List.take_length, hg]
    refine wp_for (σ := Nat) (fun k => [(6, .list true 2 (cls (ls.take k).flatten)), (25, .list false 1 (clss ls)), (26, vi (ls.length : Nat)), (27, vi (k : Nat))]) (fun _ => []) (fun k => ls.length - k) (fun k => k ≤ ls.length) 0 (by simp) rfl rfl ?_
    rintro k hk N hN
    by_cases hlt : k < ls.length
    · have h1 : ((k : Int) < (ls.length : Int)) := by omega
      have h3 := flat_take ls k hlt
      have h4 := flat_take_le ls (k + 1)
      have hm : ((ls.take k).flatten.length + ls[k].length) * 27 ≤ maxLenD := by
        rw [h3] at h4
        simp only [List.length_append] at h4
        unfold maxLenD; omega
      simp -implicitDefEqProofs -dsimp only [go_sem, h1, hlt, hm]
      refine hN (k + 1) _ (by omega) (by omega) ?_
      simp -implicitDefEqProofs -dsimp only [go_sem, wrap_succ (show k < 9223372036854775807 by omega), ← h3]
    · have h1 : ¬ ((k : Int) < (ls.length : Int)) := by omega
      have : k = ls.length := by omega
      subst this
      simp -implicitDefEqProofs -dsimp only [go_sem, h1, List.take_length]

/-- The closure that looks into the set. -/
theorem spoils1_lim (i : Nat) (m : List Cel) (hi : h[i]? = some (.map (mcs m))) (c : Cel) : lim Try.prog cfg 66 [.agg [vs c.1, .sc (.int .u8 c.2.toNat)], .eptr [.mp i]] h = some (vb (decide (c ∈ m)), h) := by
  refine lim_fun fun66 rfl (by simp) rfl ?_
  delta cd66
  have hm : ∀ N : List (DV × DV) → Prop, MapP h i N = N (mcs m) := fun N => by simp only [MapP, hi]
  by_cases hc : c ∈ m <;> simp -implicitDefEqProofs -dsimp only [go_sem, hm, find_mcs, hc]
def idxI : Option Nat → Int
  | some n => n
  | none => -1
theorem idxI_some (n : Nat) : idxI (some n) = n := rfl
theorem idxI_none : idxI none = -1 := rfl
theorem tindexFunc_lim (own : Bool) (l : List Cel) (hl : l.length ≤ 1000000) (i : Nat) (m : List Cel) (hi : h[i]? = some (.map (mcs m))) :
    ∃ r : Int, (decide (0 ≤ r) = l.any fun c => decide (c ∈ m)) ∧ lim Try.prog cfg 73 [.list own 2 (cls l), .fn (.func 66) [] [.eptr [.mp i]]] h = some (vi r, h) := by
  refine ⟨idxI (l.findIdx? fun c => decide (c ∈ m)), ?_, ?_⟩
  · cases hf : l.findIdx? (fun c => decide (c ∈ m)) with
    | none =>
      have := List.findIdx?_eq_none_iff.1 hf
      rw [idxI_none]
      rw [Bool.eq_iff_iff]
      simp only [decide_eq_true_eq, List.any_eq_true]
      constructor
      · intro h1; omega
      · rintro ⟨c, hc, h1⟩; have := this c hc; simp at this h1; exact (this h1).elim
    | some n =>
      obtain ⟨hn, h1, h2⟩ := List.findIdx?_eq_some_iff_getElem.1 hf
      rw [idxI_some]
      rw [Bool.eq_iff_iff]
      simp only [decide_eq_true_eq, List.any_eq_true]
      exact ⟨fun _ => ⟨l[n], List.getElem_mem _, by simpa using h1⟩, fun _ => by omega⟩
  refine lim_fun fun73 rfl (by simp) rfl ?_
  delta cd73
  simp -implicitDefEqProofs -dsimp only [go_sem]
  refine wp_for (σ := Nat) (fun k => [(0, .list false 2 (cls l)), (1, .fn (.func 66) [] [.eptr [.mp i]]), (7, vi (l.length : Nat)), (8, vi (k : Nat))]) (fun _ => h) (fun k => l.length - k) (fun k => k ≤ l.length ∧ ∀ j (hj : j < l.length), j < k → l[j] ∉ m) 0 (by simp) rfl rfl ?_
  rintro k ⟨hk, hj⟩ N hN
  by_cases hlt : k < l.length
  · have h1 : ((k : Int) < (l.length : Int)) := by omega
    have hx := spoils1_lim i m hi l[k]
    by_cases hc : l[k] ∈ m
    · have e : l.findIdx? (fun c => decide (c ∈ m)) = some k := List.findIdx?_eq_some_iff_getElem.2 ⟨hlt, by simpa using hc, fun j hjk => by simpa using hj j (by omega) hjk⟩
      simp -implicitDefEqProofs -dsimp only [go_sem, h1, hlt, hx, hc, e, idxI_some]
    · simp -implicitDefEqProofs -dsimp only [go_sem, h1, hlt, hx, hc]
      refine hN (k + 1) _ (by omega) ⟨by omega, fun j hj1 hj2 => ?_⟩ ?_
      · by_cases e : j = k
        · subst e; exact hc
        · exact hj j hj1 (by omega)
      · simp -implicitDefEqProofs -dsimp only [go_sem, wrap_succ (show k < 9223372036854775807 by omega)]
  · have h1 : ¬ ((k : Int) < (l.length : Int)) := by omega
    have : k = l.length := by omega
    subst this
    have e : l.findIdx? (fun c => decide (c ∈ m)) = none := List.findIdx?_eq_none_iff.2 fun c hc => by
      obtain ⟨j, hj1, rfl⟩ := List.getElem_of_mem hc
      simpa using hj j hj1 hj1
    simp -implicitDefEqProofs -dsimp only [go_sem, h1, e, idxI_none]
theorem tcontainsFunc_lim (own : Bool) (l : List Cel) (hl : l.length ≤ 1000000) (i : Nat) (m : List Cel) (hi : h[i]? = some (.map (mcs m))) :
    lim Try.prog cfg 65 [.list own 2 (cls l), .fn (.func 66) [] [.eptr [.mp i]]] h = some (vb (l.any fun c => decide (c ∈ m)), h) := by
  refine lim_fun fun65 rfl (by simp) rfl ?_
  delta cd65
  obtain ⟨r, hr, hx⟩ := tindexFunc_lim (h := h) false l hl i m hi
  rw [← hr]
  simp -implicitDefEqProofs -dsimp only [go_sem, hx]
  by_cases h0 : 0 ≤ r <;> simp [h0]
abbrev useD (r w : List Cel) : DV := .agg [.list false 2 (cls r), .list false 2 (cls w)]
theorem spoils_lim (r w r' w' : List Cel) (h1 : r.length ≤ 1000) (h2 : w.length ≤ 1000) (h3 : r'.length ≤ 1000) (h4 : w'.length ≤ 1000) :
    lim Try.prog cfg 54 [useD r w, useD r' w'] h = some (vb (spoilsP w r' w'), h) := by
  refine lim_funp fun54 rfl (by simp) (by simp [heapFree, heapFree.all, free_cls]) rfl ?_
  delta cd54
  have hc := concat_lim (h := [.map []]) false [r', w'] (by simp) (by simp; omega)
  have hcl : clss [r', w'] = [[.list false 2 (cls r')], [.list false 2 (cls w')]] := rfl
  have hfl : [r', w'].flatten = r' ++ w' := by simp
  rw [hcl, hfl] at hc
  have hu : (r' ++ w').length ≤ 2000 := by simp; omega
  unfold spoilsP
  generalize r' ++ w' = u at hc hu ⊢
  simp -implicitDefEqProofs -dsimp only [go_sem, hc]
  refine wp_for (σ := Nat × DV) (fun x => [(2, .box [.list false 2 (cls r), .list false 2 (cls w)]), (3, .box [.list false 2 (cls r'), .list false 2 (cls w')]), (5, .box [.mp 0]), (7, x.2), (14, .list true 2 (cls u)), (15, vi (u.length : Nat)), (16, vi (x.1 : Nat))]) (fun x => [.map (mcs (insAll (u.take x.1)))]) (fun x => u.length - x.1) (fun x => x.1 ≤ u.length) (0, .junk) (by simp) rfl rfl ?_
  rintro ⟨k, x⟩ hk N hN
  dsimp only at hk
  by_cases hlt : k < u.length
  · have h1 : ((k : Int) < (u.length : Int)) := by omega
    have hs : insC u[k] (insAll (u.take k)) = insAll (u.take (k + 1)) := by rw [List.take_succ_eq_append_getElem hlt, insAll_snoc]
    have hm : ∀ N : List (DV × DV) → Prop, MapP [.map (mcs (insAll (u.take k)))] 0 N = N (mcs (insAll (u.take k))) := fun N => rfl
    simp -implicitDefEqProofs -dsimp only [go_sem, h1, hlt, hm, set_mcs, hs, List.set_cons_zero]
    refine hN (k + 1, .box [vs u[k].1, .sc (.int .u8 u[k].2.toNat)]) _ (by dsimp only; omega) (by dsimp only; omega) ?_
    simp -implicitDefEqProofs -dsimp only [go_sem, wrap_succ (show k < 9223372036854775807 by omega)]
  · have h1 : ¬ ((k : Int) < (u.length : Int)) := by omega
    have : k = u.length := by omega
    subst this
    have hx := tcontainsFunc_lim (h := [.map (mcs (insAll (u.take u.length)))]) false w (by omega) 0 _ rfl
    simp only [List.take_length, mem_insAll] at hx
    generalize (w.any fun c => decide (c ∈ u)) = z at hx ⊢
    cases z <;> simp -implicitDefEqProofs -dsimp only [go_sem, h1, hx, List.take_length]
theorem uses_lim (c : Cmd) (hp : c.path.length ≤ 1099511627776) : lim Try.prog cfg 53 [cmdD c] h = some (useD (usesP c).1 (usesP c).2, h) := by
  refine lim_funp fun53 rfl (by simp) rfl (by simp [heapFree, heapFree.all, free_cls]) ?_
  delta cd53
  have v := valid_lim (h := []) c.path hp
  have u := parent_lim (h := []) c.path hp
  have t1 := tof_lim (h := []) false c.path [101] (by simp)
  have t2 := tof_lim (h := []) false c.path [118] (by simp)
  have t3 := tof_lim (h := []) false c.path [101, 118] (by simp)
  have t4 := tof_lim (h := []) false c.path [101, 107] (by simp)
  have t5 := tof_lim (h := []) false (parentP c.path) [101] (by simp)
  have t6 := tof_lim (h := []) false (parentP c.path) [107] (by simp)
  have m1 : (1 + 1) * 27 ≤ maxLenD := by decide
  have m2 : (2 + 1) * 27 ≤ maxLenD := by decide
  simp only [bys, List.map_cons, List.map_nil, UInt8.toNat_ofNat, Nat.reducePow, Nat.reduceMod, Int.cast_ofNat_Int] at t1 t2 t3 t4 t5 t6
  unfold usesP
  cases h1 : parse c.path with
  | none =>
    rw [h1] at v
    simp -implicitDefEqProofs -dsimp only [go_sem, v]
    simp [cls]
  | some l =>
    rw [h1] at v
    by_cases o4 : c.op = 4
    · simp -implicitDefEqProofs -dsimp only [go_sem, v, o4, t3]
      simp [cls]
    by_cases o5 : c.op = 5
    · simp -implicitDefEqProofs -dsimp only [go_sem, v, o4, o5, t4]
      simp [cls]
    by_cases r : parentP c.path = []
    · by_cases o1 : c.op = 1
      · simp -implicitDefEqProofs -dsimp only [go_sem, v, u, r, o1, t1]
        simp [cls]
      · simp -implicitDefEqProofs -dsimp only [go_sem, v, u, r, o4, o5, o1]
        simp [cls]
    by_cases o1 : c.op = 1
    · simp -implicitDefEqProofs -dsimp only [go_sem, v, u, r, o1, t1, t3, t5, t6]
      simp [ofP, maxLenD]
    by_cases o2 : c.op = 2
    · simp -implicitDefEqProofs -dsimp only [go_sem, v, u, r, o2, t1, t3, t4, t5, t6]
      simp [ofP, maxLenD]
    by_cases o3 : c.op = 3
    · simp -implicitDefEqProofs -dsimp only [go_sem, v, u, r, o3, t1, t2]
    by_cases o6 : c.op = 6
    · simp -implicitDefEqProofs -dsimp only [go_sem, v, u, r, o6, t2, t3]
    · simp -implicitDefEqProofs -dsimp only [go_sem, v, u, r, o4, o5, o1, o2, o3, o6]
      simp [cls]
theorem reads_lim (c : Cmd) (hp : c.path.length ≤ 1099511627776) : lim Try.prog cfg 35 [cmdD c] h = some (.list false 2 (cls (usesP c).1), h) := by
  refine lim_funp fun35 rfl (by simp) rfl (by simp [heapFree, heapFree.all, free_cls]) ?_
  delta cd35
  have v := uses_lim (h := []) c hp
  simp -implicitDefEqProofs -dsimp only [go_sem, v]
theorem writes_lim (c : Cmd) (hp : c.path.length ≤ 1099511627776) : lim Try.prog cfg 36 [cmdD c] h = some (.list false 2 (cls (usesP c).2), h) := by
  refine lim_funp fun36 rfl (by simp) rfl (by simp [heapFree, heapFree.all, free_cls]) ?_
  delta cd36
  have v := uses_lim (h := []) c hp
  simp -implicitDefEqProofs -dsimp only [go_sem, v]
theorem paths_lim (a b : Cmd) (ha : a.path.length ≤ 1099511627776) (hb : b.path.length ≤ 1099511627776) : lim Try.prog cfg 37 [cmdD a, cmdD b] h = some (vb (pathsB a b), h) := by
  refine lim_funp fun37 rfl (by simp) rfl rfl ?_
  delta cd37
  have v := uses_lim (h := []) a ha
  have w := uses_lim (h := []) b hb
  have la := uses_le a
  have lb := uses_le b
  have x := spoils_lim (h := []) (usesP a).1 (usesP a).2 (usesP b).1 (usesP b).2 (by omega) (by omega) (by omega) (by omega)
  have y := spoils_lim (h := []) (usesP b).1 (usesP b).2 (usesP a).1 (usesP a).2 (by omega) (by omega) (by omega) (by omega)
  unfold pathsB
  generalize spoilsP (usesP a).2 (usesP b).1 (usesP b).2 = p at x ⊢
  generalize spoilsP (usesP b).2 (usesP a).1 (usesP a).2 = q at y ⊢
  cases p <;> cases q <;> simp -implicitDefEqProofs -dsimp only [go_sem, v, w, x, y]
theorem control_lim (c : Cmd) : lim Try.prog cfg 41 [cmdD c] h = some (vb (controlB c), h) := by
  refine lim_funp fun41 rfl (by simp) rfl rfl ?_
  delta cd41
  unfold controlB
  by_cases o1 : 7 ≤ c.op <;> by_cases o2 : c.op ≤ 9 <;> simp -implicitDefEqProofs -dsimp only [go_sem, o1, o2]
set_option maxHeartbeats 2000000 in
theorem both_lim (a b : Cmd) (ha : a.path.length ≤ 1099511627776) (hb : b.path.length ≤ 1099511627776) : lim Try.prog cfg 39 [cmdD a, cmdD b] h = some (vb (bothB a b), h) := by
  refine lim_funp fun39 rfl (by simp) rfl rfl ?_
  delta cd39
  have v := control_lim (h := []) a
  have w := control_lim (h := []) b
  have x := paths_lim (h := []) a b ha hb
  unfold bothB
  by_cases o1 : a.op = 0
  · simp -implicitDefEqProofs -dsimp only [go_sem, o1]
    simp
  by_cases o2 : b.op = 0
  · simp -implicitDefEqProofs -dsimp only [go_sem, o1, o2]
    simp
  generalize controlB a = p at v ⊢
  generalize controlB b = q at w ⊢
  generalize pathsB a b = z at x ⊢
  cases p <;> cases q <;> simp -implicitDefEqProofs -dsimp only [go_sem, o1, o2, v, w, x] <;> by_cases o3 : a.client = b.client <;> cases z <;> simp [o3]
theorem over_lim (own : Bool) (l : List Cmd) (hl : l.length ≤ 1099511627776) : lim Try.prog cfg 32 [.list own 8 (cms l)] h = some (vb (overP l), h) := by
  refine lim_funp fun32 rfl (by simp) (by simp [heapFree, free_cms]) rfl ?_
  delta cd32
  simp -implicitDefEqProofs -dsimp only [go_sem]
  refine wp_for (σ := Nat) (fun k => [(0, .list false 8 (cms l)), (3, vi (k : Nat))]) (fun _ => []) (fun k => l.length - k) (fun k => k ≤ l.length ∧ k ≤ 61 ∧ (l.take k).any bigC = false) 0 (by simp) rfl rfl ?_
  rintro k ⟨hk, hk2, hj⟩ N hN
  by_cases hlt : k < l.length
  · have h1 : ((k : Int) < (l.length : Int)) := by omega
    by_cases h60 : k ≤ 60
    · have h2 : ((k : Int) ≤ 60) := by omega
      have hs := List.take_succ_eq_append_getElem hlt
      by_cases hb : bigC l[k] = true
      · have ho : overP l = true := by
          have : (l.take 61).any bigC = true := by
            rw [List.any_eq_true]
            exact ⟨l[k], List.mem_take_iff_getElem.2 ⟨k, by omega, rfl⟩, hb⟩
          simp [overP, this]
        rw [ho]
        simp only [bigC, Bool.or_eq_true, decide_eq_true_eq] at hb
        by_cases b1 : 300 < l[k].path.length
        · have b1' : (300 : Int) < (l[k].path.length : Int) := by omega
          simp -implicitDefEqProofs -dsimp only [go_sem, h1, h2, hlt, b1']
        · have b1' : ¬ (300 : Int) < (l[k].path.length : Int) := by omega
          have b2' : (300 : Int) < (l[k].value.length : Int) := by omega
          simp -implicitDefEqProofs -dsimp only [go_sem, h1, h2, hlt, b1', b2']
      · have hb' := hb
        simp only [bigC, Bool.or_eq_true, decide_eq_true_eq, not_or] at hb
        have b1' : ¬ (300 : Int) < (l[k].path.length : Int) := by omega
        have b2' : ¬ (300 : Int) < (l[k].value.length : Int) := by omega
        simp -implicitDefEqProofs -dsimp only [go_sem, h1, h2, hlt, b1', b2']
        refine hN (k + 1) _ (by omega) ⟨by omega, by omega, ?_⟩ ?_
        · rw [hs, List.any_append, hj]; simpa using hb'
        · simp -implicitDefEqProofs -dsimp only [go_sem, wrap_succ (show k < 9223372036854775807 by omega)]
    · have h2 : ¬ ((k : Int) ≤ 60) := by omega
      have h3 : (60 : Int) < (l.length : Int) := by omega
      have ho : overP l = true := by
        unfold overP
        rw [Bool.or_eq_true]
        exact .inr (decide_eq_true (by omega))
      simp -implicitDefEqProofs -dsimp only [go_sem, h1, h2, h3, ho]
  · have h1 : ¬ ((k : Int) < (l.length : Int)) := by omega
    have : k = l.length := by omega
    subst this
    rw [List.take_length] at hj
    have ho : overP l = decide (60 < l.length) := by
      have : (l.take 61).any bigC = false := by rw [List.take_of_length_le (by omega)]; exact hj
      simp [overP, this]
    rw [ho]
    by_cases h3 : 60 < l.length
    · have h4 : (60 : Int) < (l.length : Int) := by omega
      simp -implicitDefEqProofs -dsimp only [go_sem, h1, h3, h4]
    · have h4 : ¬ (60 : Int) < (l.length : Int) := by omega
      simp -implicitDefEqProofs -dsimp only [go_sem, h1, h3, h4]
end Go.DS

/-
  Walks: the reference's functions of touch; the laws.
-/
namespace Go.DS
open Go Go.Proofs
set_option maxRecDepth 100000
set_option linter.unusedVariables false
set_option linter.unusedSimpArgs false
def cd33 : Cd := .seq (R [c0 1 (.new false (.s 0)), c0 2 (.mv (.c (kn 2))), c0 3 (.mv (.c (kn 2)))] [1, 6, 7, 8]) (.seq (R [c0 9 (.mov 3 (.s 1)), c0 10 (.ldx true false 1 (.s 9)), c0 4 (.tk (.s 10))] [1, 4, 6, 7, 8]) (.seq (.seq (R [c0 11 (.mv (.s 4)), cb 12 (.call none (.c (kf 15)) [(.s 11)]), cb 13 (.un .not (.s 12))] [1, 4, 6, 7, 8, 13]) (.ite (.s 13) (.seq (R [c0 2 (.mv (.c (kn 2))), c0 3 (.mv (.c (kn 2)))] [1, 2, 3, 6, 7, 8]) (.ret)) (.skip))) (.seq (R [c0 14 (.mv (.s 4)), c0 15 (.call none (.c (kf 22)) [(.s 14)]), c0 5 (.tk (.s 15))] [1, 4, 5, 6, 7, 8]) (.seq (R [c0 16 (.mv (.s 4)), c0 17 (.bld [ks [], ki .u8 0] [(0, 1, (.s 16)), (1, 1, (.c (ki .u8 101)))]), c0 6 (.new false (.c (.agg [ks [], ki .u8 0]))), cn (.st 2 (.s 6) (.s 17))] [1, 4, 5, 6, 7, 8]) (.seq (R [c0 18 (.mv (.s 4)), c0 19 (.bld [ks [], ki .u8 0] [(0, 1, (.s 18)), (1, 1, (.c (ki .u8 118)))]), c0 7 (.new false (.c (.agg [ks [], ki .u8 0]))), cn (.st 2 (.s 7) (.s 19))] [1, 4, 5, 6, 7, 8]) (.seq (R [c0 20 (.mv (.s 4)), c0 21 (.bld [ks [], ki .u8 0] [(0, 1, (.s 20)), (1, 1, (.c (ki .u8 107)))]), c0 8 (.new false (.c (.agg [ks [], ki .u8 0]))), cn (.st 2 (.s 8) (.s 21))] [1, 4, 5, 6, 7, 8]) (.seq (.seq (R [c0 22 (.mov 2 (.s 1)), c0 23 (.ld false 1 (.s 22))] [1, 4, 5, 6, 7, 8, 23]) (.block 0 (.seq (R [cb 25 (.bin .eql .any (.s 23) (.c (ki .i64 1))), cb 24 (.tk (.s 25))] [1, 4, 5, 6, 7, 8, 23, 24]) (.ite (.s 24) (.seq (.seq (R [c0 26 (.mv (.s 4)), cb 27 (.bin .eql .any (.s 26) (.c (ks [47])))] [1, 5, 6, 7, 8, 27]) (.ite (.s 27) (.seq (R [c0 28 (.ld true 2 (.s 6)), c0 29 (.bsl 2 [(.s 28)]), c0 2 (.mv (.s 29)), c0 3 (.mv (.c (kn 2)))] [1, 2, 3, 6, 7, 8]) (.ret)) (.skip))) (.seq (RD [cd (some 30) false none (.mv (.s 5)) false false [5], cd (some 31) false none (.bld [ks [], ki .u8 0] [(0, 1, (.s 30)), (1, 1, (.c (ki .u8 101)))]) false false [30], cd (some 32) false none (.ld true 2 (.s 6)) false false [6], cd (some 33) false none (.bsl 2 [(.s 31), (.s 32)]) false false [31, 32], cd (some 34) false none (.ld true 2 (.s 6)) false false [6], cd (some 35) false none (.ld true 2 (.s 7)) false false [7], cd (some 36) false none (.mv (.s 5)) false false [5], cd (some 37) false none (.bld [ks [], ki .u8 0] [(0, 1, (.s 36)), (1, 1, (.c (ki .u8 107)))]) false false [36], cd (some 38) false none (.bsl 2 [(.s 34), (.s 35), (.s 37)]) false false [34, 35, 37], cd (some 2) false none (.mv (.s 33)) false false [33], cd (some 3) false none (.mv (.s 38)) false false [38]] [1, 2, 3, 6, 7, 8] []) (.ret))) (.seq (R [cb 40 (.bin .eql .any (.s 23) (.c (ki .i64 2))), cb 39 (.tk (.s 40))] [1, 4, 5, 6, 7, 8, 23, 39]) (.ite (.s 39) (.seq (R [c0 41 (.mv (.s 4)), cb 42 (.bin .neq .any (.s 41) (.c (ks [47])))] [1, 5, 6, 7, 8, 42]) (.ite (.s 42) (.seq (RD [cd (some 43) false none (.ld true 2 (.s 6)) false false [6], cd (some 44) false none (.ld true 2 (.s 8)) false false [8], cd (some 45) false none (.bsl 2 [(.s 43), (.s 44)]) false false [43, 44], cd (some 46) false none (.ld true 2 (.s 6)) false false [6], cd (some 47) false none (.ld true 2 (.s 7)) false false [7], cd (some 48) false none (.mv (.s 5)) false false [5], cd (some 49) false none (.bld [ks [], ki .u8 0] [(0, 1, (.s 48)), (1, 1, (.c (ki .u8 107)))]) false false [48], cd (some 50) false none (.bsl 2 [(.s 46), (.s 47), (.s 49)]) false false [46, 47, 49], cd (some 2) false none (.mv (.s 45)) false false [45], cd (some 3) false none (.mv (.s 50)) false false [50]] [1, 2, 3, 6, 7, 8] []) (.ret)) (.skip))) (.seq (R [cb 52 (.bin .eql .any (.s 23) (.c (ki .i64 3))), cb 51 (.tk (.s 52))] [1, 4, 6, 7, 8, 23, 51]) (.ite (.s 51) (.seq (R [c0 53 (.mv (.s 4)), cb 54 (.bin .neq .any (.s 53) (.c (ks [47])))] [1, 6, 7, 8, 54]) (.ite (.s 54) (.seq (RD [cd (some 55) false none (.ld true 2 (.s 6)) false false [6], cd (some 56) false none (.bsl 2 [(.s 55)]) false false [55], cd (some 57) false none (.ld true 2 (.s 7)) false false [7], cd (some 58) false none (.bsl 2 [(.s 57)]) false false [57], cd (some 2) false none (.mv (.s 56)) false false [56], cd (some 3) false none (.mv (.s 58)) false false [58]] [1, 2, 3, 6, 7, 8] []) (.ret)) (.skip))) (.seq (R [cb 60 (.bin .eql .any (.s 23) (.c (ki .i64 6))), cb 59 (.tk (.s 60))] [1, 4, 6, 7, 8, 23, 59]) (.ite (.s 59) (.seq (R [c0 61 (.mv (.s 4)), cb 62 (.bin .neq .any (.s 61) (.c (ks [47])))] [1, 6, 7, 8, 62]) (.ite (.s 62) (.seq (RD [cd (some 63) false none (.ld true 2 (.s 6)) false false [6], cd (some 64) false none (.ld true 2 (.s 7)) false false [7], cd (some 65) false none (.bsl 2 [(.s 63), (.s 64)]) false false [63, 64], cd (some 66) false none (.ld true 2 (.s 7)) false false [7], cd (some 67) false none (.bsl 2 [(.s 66)]) false false [66], cd (some 2) false none (.mv (.s 65)) false false [65], cd (some 3) false none (.mv (.s 67)) false false [67]] [1, 2, 3, 6, 7, 8] []) (.ret)) (.skip))) (.seq (R [cb 69 (.bin .eql .any (.s 23) (.c (ki .i64 4))), cb 68 (.tk (.s 69))] [1, 6, 7, 8, 23, 68]) (.ite (.s 68) (.seq (R [c0 70 (.ld true 2 (.s 6)), c0 71 (.ld true 2 (.s 7)), c0 72 (.bsl 2 [(.s 70), (.s 71)]), c0 2 (.mv (.s 72)), c0 3 (.mv (.c (kn 2)))] [1, 2, 3, 6, 7, 8]) (.ret)) (.seq (R [cb 74 (.bin .eql .any (.s 23) (.c (ki .i64 5))), cb 73 (.tk (.s 74))] [1, 6, 7, 8, 73]) (.ite (.s 73) (.seq (R [c0 75 (.ld true 2 (.s 6)), c0 76 (.ld true 2 (.s 8)), c0 77 (.bsl 2 [(.s 75), (.s 76)]), c0 2 (.mv (.s 77)), c0 3 (.mv (.c (kn 2)))] [1, 2, 3, 6, 7, 8]) (.ret)) (.skip))))))))))))))) (.seq (R [c0 2 (.mv (.c (kn 2))), c0 3 (.mv (.c (kn 2)))] [1, 2, 3, 6, 7, 8]) (.ret)))))))))
theorem fun33 : Fun Try.prog cfg 33 78 cd33 [.s 2, .s 3] := ⟨rfl, Try.f33, _, Try.func33, rfl, rfl, by kernel_rfl, by kernel_rfl⟩
@[go_sem] theorem ok33 : calleeOK Try.prog 33 = true := by kernel_rfl
@[go_sem] theorem ex33 : (cfg.ext 33).isSome = false := rfl
def cd55 : Cd := .seq (R [cb 4 (.tk (.c (kb false)))] [0, 1]) (.seq (.seq (R [c0 5 (.tk (.c (ki .i64 0)))] [0, 1, 5]) (.block 0 (LP [0, 1, 5] (.seq (.seq (R [c0 7 (.mv (.s 5)), c0 8 (.mv (.s 0)), c0 9 (.len 1 (.s 8)), cb 10 (.bin .lss .any (.s 7) (.s 9))] [0, 1, 5, 10]) (.ite (.s 10) (.skip) (.exit 0))) (.seq (.block 1 (.seq (R [c0 6 (.tk (.c (ki .i64 0)))] [0, 1, 5, 6]) (.block 2 (LP [0, 1, 5, 6] (.seq (.seq (R [c0 13 (.mv (.s 6)), c0 14 (.mv (.s 1)), c0 15 (.len 1 (.s 14)), cb 16 (.bin .lss .any (.s 13) (.s 15))] [0, 1, 5, 6, 16]) (.ite (.s 16) (.skip) (.exit 2))) (.seq (.block 3 (.seq (RD [cd (some 19) false none (.mv (.s 0)) false false [0], cd (some 20) false none (.mv (.s 5)) false false [5], cd (some 21) false none (.ixp 2 (.s 19) (.s 20)) false false [19, 20], cd (some 22) false none (.ld true 2 (.s 21)) false false [21], cd (some 23) false none (.mv (.s 1)) false false [1], cd (some 24) false none (.mv (.s 6)) false false [6], cd (some 25) false none (.ixp 2 (.s 23) (.s 24)) false false [23, 24], cd (some 26) false none (.ld true 2 (.s 25)) false false [25], cd (some 27) true none (.bin .eql (.flat [2, 0]) (.s 22) (.s 26)) false false [22, 26]] [0, 1, 5, 6, 27] []) (.ite (.s 27) (.seq (R [cb 4 (.tk (.c (kb true)))] [4]) (.ret)) (.skip)))) (R [c0 17 (.mv (.s 6)), c0 18 (.bin .add .any (.s 17) (.c (ki .i64 1))), c0 6 (.tk (.s 18))] [0, 1, 5, 6]))))))) (R [c0 11 (.mv (.s 5)), c0 12 (.bin .add .any (.s 11) (.c (ki .i64 1))), c0 5 (.tk (.s 12))] [0, 1, 5])))))) (.seq (R [cb 4 (.tk (.c (kb false)))] [4]) (.ret)))
theorem fun55 : Fun Try.prog cfg 55 28 cd55 [.s 4] := ⟨rfl, Try.f55, _, Try.func55, rfl, rfl, by kernel_rfl, by kernel_rfl⟩
@[go_sem] theorem ok55 : calleeOK Try.prog 55 = true := by kernel_rfl
@[go_sem] theorem ex55 : (cfg.ext 55).isSome = false := rfl
def cd38 : Cd := .seq (R [c0 2 (.new false (.s 0)), c0 3 (.new false (.s 1)), cb 4 (.tk (.c (kb false)))] [2, 3]) (.seq (R [c0 10 (.ld true 8 (.s 2)), c0 11 (.call none (.c (kf 33)) [(.s 10)]), c0 9 (.tk (.s 11)), c0 12 (.exh (.s 9)), c0 13 (.ext (.s 9) 1), c0 5 (.tk (.s 12)), c0 6 (.tk (.s 13))] [2, 3, 5, 6]) (.seq (R [c0 15 (.ld true 8 (.s 3)), c0 16 (.call none (.c (kf 33)) [(.s 15)]), c0 14 (.tk (.s 16)), c0 17 (.exh (.s 14)), c0 18 (.ext (.s 14) 1), c0 7 (.tk (.s 17)), c0 8 (.tk (.s 18))] [2, 3, 5, 6, 7, 8]) (.seq (R [c0 19 (.mv (.s 6)), c0 20 (.mv (.s 7)), cb 21 (.call none (.c (kf 55)) [(.s 19), (.s 20)]), cb 22 (.mv (.s 21)), cg 23 22 false (.mv (.s 6)), cg 24 22 false (.mv (.s 8)), ch 25 22 false (.call none (.c (kf 55)) [(.s 23), (.s 24)]), cb 26 (.pick (.s 22) (.c (kb true)) (.s 25)), cb 27 (.mv (.s 26)), cg 28 27 false (.mv (.s 8)), cg 29 27 false (.mv (.s 5)), ch 30 27 false (.call none (.c (kf 55)) [(.s 28), (.s 29)]), cb 31 (.pick (.s 27) (.c (kb true)) (.s 30)), cb 4 (.tk (.s 31))] [2, 3, 4]) (.ret))))
theorem fun38 : Fun Try.prog cfg 38 32 cd38 [.s 4] := ⟨rfl, Try.f38, _, Try.func38, rfl, rfl, by kernel_rfl, by kernel_rfl⟩
@[go_sem] theorem ok38 : calleeOK Try.prog 38 = true := by kernel_rfl
@[go_sem] theorem ex38 : (cfg.ext 38).isSome = false := rfl
def cd42 : Cd := .seq (R [c0 1 (.new false (.s 0)), cb 2 (.tk (.c (kb false)))] [1]) (.seq (R [c0 3 (.mov 2 (.s 1)), c0 4 (.ld false 1 (.s 3)), cb 5 (.bin .eql .any (.s 4) (.c (ki .i64 7))), cb 6 (.mv (.s 5)), cg 7 6 false (.mov 2 (.s 1)), cg 8 6 false (.ld false 1 (.s 7)), ch 9 6 false (.bin .eql .any (.s 8) (.c (ki .i64 8))), cb 10 (.pick (.s 6) (.c (kb true)) (.s 9)), cb 11 (.mv (.s 10)), cg 12 11 false (.mov 2 (.s 1)), cg 13 11 false (.ld false 1 (.s 12)), ch 14 11 false (.bin .eql .any (.s 13) (.c (ki .i64 9))), cb 15 (.pick (.s 11) (.c (kb true)) (.s 14)), cb 2 (.tk (.s 15))] [1, 2]) (.ret))
theorem fun42 : Fun Try.prog cfg 42 16 cd42 [.s 2] := ⟨rfl, Try.f42, _, Try.func42, rfl, rfl, by kernel_rfl, by kernel_rfl⟩
@[go_sem] theorem ok42 : calleeOK Try.prog 42 = true := by kernel_rfl
@[go_sem] theorem ex42 : (cfg.ext 42).isSome = false := rfl
def cd40 : Cd := .seq (R [c0 2 (.new false (.s 0)), c0 3 (.new false (.s 1)), cb 4 (.tk (.c (kb false)))] [2, 3]) (.seq (.seq (R [c0 5 (.mov 2 (.s 2)), c0 6 (.ld false 1 (.s 5)), cb 7 (.bin .eql .any (.s 6) (.c (ki .i64 0))), cb 8 (.mv (.s 7)), cg 9 8 false (.mov 2 (.s 3)), cg 10 8 false (.ld false 1 (.s 9)), ch 11 8 false (.bin .eql .any (.s 10) (.c (ki .i64 0))), cb 12 (.pick (.s 8) (.c (kb true)) (.s 11))] [2, 3, 12]) (.ite (.s 12) (.seq (R [cb 4 (.tk (.c (kb false)))] [2, 3, 4]) (.ret)) (.skip))) (.seq (R [c0 13 (.ld true 8 (.s 2)), cb 14 (.call none (.c (kf 42)) [(.s 13)]), cb 15 (.mv (.s 14)), cg 16 15 false (.ld true 8 (.s 3)), ch 17 15 false (.call none (.c (kf 42)) [(.s 16)]), cb 18 (.pick (.s 15) (.c (kb true)) (.s 17)), cb 19 (.mv (.s 18)), cg 20 19 false (.mov 0 (.s 2)), cg 21 19 false (.ld false 1 (.s 20)), cg 22 19 false (.mov 0 (.s 3)), cg 23 19 false (.ld false 1 (.s 22)), ch 24 19 false (.bin .eql .any (.s 21) (.s 23)), cb 25 (.pick (.s 19) (.c (kb true)) (.s 24)), cb 26 (.mv (.s 25)), cg 27 26 false (.ld true 8 (.s 2)), cg 28 26 false (.ld true 8 (.s 3)), ch 29 26 false (.call none (.c (kf 38)) [(.s 27), (.s 28)]), cb 30 (.pick (.s 26) (.c (kb true)) (.s 29)), cb 4 (.tk (.s 30))] [2, 3, 4]) (.ret)))
theorem fun40 : Fun Try.prog cfg 40 31 cd40 [.s 4] := ⟨rfl, Try.f40, _, Try.func40, rfl, rfl, by kernel_rfl, by kernel_rfl⟩
@[go_sem] theorem ok40 : calleeOK Try.prog 40 = true := by kernel_rfl
@[go_sem] theorem ex40 : (cfg.ext 40).isSome = false := rfl
def cd34 : Cd := .seq (R [cb 4 (.tk (.c (kb false)))] [0, 1]) (.seq (.seq (R [c0 6 (.mv (.s 0)), c0 7 (.len 1 (.s 6)), c0 8 (.mv (.s 1)), c0 9 (.len 1 (.s 8)), cb 10 (.bin .neq .any (.s 7) (.s 9))] [0, 1, 10]) (.ite (.s 10) (.seq (R [cb 4 (.tk (.c (kb false)))] [4]) (.ret)) (.skip))) (.seq (.seq (R [c0 5 (.tk (.c (ki .i64 0)))] [0, 1, 5]) (.block 0 (LP [0, 1, 5] (.seq (.seq (R [c0 11 (.mv (.s 5)), c0 12 (.mv (.s 0)), c0 13 (.len 1 (.s 12)), cb 14 (.bin .lss .any (.s 11) (.s 13))] [0, 1, 5, 14]) (.ite (.s 14) (.skip) (.exit 0))) (.seq (.block 1 (.seq (RD [cd (some 17) false none (.mv (.s 0)) false false [0], cd (some 18) false none (.mv (.s 5)) false false [5], cd (some 19) false none (.ixp 2 (.s 17) (.s 18)) false false [17, 18], cd (some 20) false none (.mov 0 (.s 19)) false false [19], cd (some 21) false none (.ld false 1 (.s 20)) false false [20], cd (some 22) false none (.mv (.s 1)) false false [1], cd (some 23) false none (.mv (.s 5)) false false [5], cd (some 24) false none (.ixp 2 (.s 22) (.s 23)) false false [22, 23], cd (some 25) false none (.mov 0 (.s 24)) false false [24], cd (some 26) false none (.ld false 1 (.s 25)) false false [25], cd (some 27) true none (.bin .neq .any (.s 21) (.s 26)) false false [21, 26], cd (some 28) true none (.mv (.s 27)) false false [27], cd (some 29) false (some (28, false)) (.mv (.s 0)) false false [0], cd (some 30) false (some (28, false)) (.mv (.s 5)) false false [5], cd (some 31) false (some (28, false)) (.ixp 2 (.s 29) (.s 30)) false false [29, 30], cd (some 32) false (some (28, false)) (.mov 1 (.s 31)) false false [31], cd (some 33) false (some (28, false)) (.ld false 1 (.s 32)) false false [32], cd (some 34) false (some (28, false)) (.mv (.s 1)) false false [1], cd (some 35) false (some (28, false)) (.mv (.s 5)) false false [5], cd (some 36) false (some (28, false)) (.ixp 2 (.s 34) (.s 35)) false false [34, 35], cd (some 37) false (some (28, false)) (.mov 1 (.s 36)) false false [36], cd (some 38) false (some (28, false)) (.ld false 1 (.s 37)) false false [37], cd (some 39) true (some (28, false)) (.bin .neq .any (.s 33) (.s 38)) false false [33, 38], cd (some 40) true none (.pick (.s 28) (.c (kb true)) (.s 39)) false false [28, 39]] [0, 1, 5, 40] []) (.ite (.s 40) (.seq (R [cb 4 (.tk (.c (kb false)))] [4]) (.ret)) (.skip)))) (R [c0 15 (.mv (.s 5)), c0 16 (.bin .add .any (.s 15) (.c (ki .i64 1))), c0 5 (.tk (.s 16))] [0, 1, 5])))))) (.seq (R [cb 4 (.tk (.c (kb true)))] [4]) (.ret))))
theorem fun34 : Fun Try.prog cfg 34 41 cd34 [.s 4] := ⟨rfl, Try.f34, _, Try.func34, rfl, rfl, by kernel_rfl, by kernel_rfl⟩
@[go_sem] theorem ok34 : calleeOK Try.prog 34 = true := by kernel_rfl
@[go_sem] theorem ex34 : (cfg.ext 34).isSome = false := rfl
@[go_sem] theorem ok31 : calleeOK Try.prog 31 = true := by kernel_rfl
@[go_sem] theorem ex31 : (cfg.ext 31).isSome = false := rfl
variable {h : DHeap}
theorem works8_lim : lim Try.prog cfg 31 [] h = some (vb true, h) := lim_of (n := 60) (by kernel_rfl)
theorem eqs_cel (c d : Cel) : eqs [2, 0] [.sc (.string (mkB c.1)), .sc (.int .u8 c.2.toNat)] [.sc (.string (mkB d.1)), .sc (.int .u8 d.2.toNat)] = some (decide (c = d)) := eqK_cel c d
theorem rcells_lim (c : Cmd) (hp : c.path.length ≤ 1048575) : lim Try.prog cfg 33 [cmdD c] h = some (.tup [.list false 2 (cls (usesP c).1), .list false 2 (cls (usesP c).2)], h) := by
  refine lim_funp fun33 rfl (by simp) rfl (by simp [heapFree, heapFree.all, free_cls]) ?_
  delta cd33
  have v := rvalid_lim (h := []) c.path hp
  have u := rparent_lim (h := []) c.path hp
  unfold usesP
  cases h1 : parse c.path with
  | none =>
    rw [h1] at v
    simp -implicitDefEqProofs -dsimp only [go_sem, v]
    simp [cls]
  | some l =>
    rw [h1] at v
    have hr := root_iff h1
    by_cases o4 : c.op = 4
    · simp -implicitDefEqProofs -dsimp only [go_sem, v, u, o4]
      simp [cls, ofP]
    by_cases o5 : c.op = 5
    · simp -implicitDefEqProofs -dsimp only [go_sem, v, u, o4, o5]
      simp [cls, ofP]
    by_cases r : c.path = [47]
    · have r' := hr.2 r
      rw [r] at v u r'
      by_cases o1 : c.op = 1
      · simp -implicitDefEqProofs -dsimp only [go_sem, v, u, r, r', o1]
        simp [cls, ofP]
      by_cases o2 : c.op = 2
      · simp -implicitDefEqProofs -dsimp only [go_sem, v, u, r, r', o2]
        simp [cls, ofP]
      by_cases o3 : c.op = 3
      · simp -implicitDefEqProofs -dsimp only [go_sem, v, u, r, r', o3]
        simp [cls, ofP]
      by_cases o6 : c.op = 6
      · simp -implicitDefEqProofs -dsimp only [go_sem, v, u, r, r', o6]
        simp [cls, ofP]
      · simp -implicitDefEqProofs -dsimp only [go_sem, v, u, r, r', o4, o5, o1, o2, o3, o6]
        simp [cls, ofP]
    have r' : ¬ parentP c.path = [] := fun e => r (hr.1 e)
    by_cases o1 : c.op = 1
    · simp -implicitDefEqProofs -dsimp only [go_sem, v, u, r, r', o1]
      simp [cls, ofP]
    by_cases o2 : c.op = 2
    · simp -implicitDefEqProofs -dsimp only [go_sem, v, u, r, r', o2]
      simp [cls, ofP]
    by_cases o3 : c.op = 3
    · simp -implicitDefEqProofs -dsimp only [go_sem, v, u, r, r', o3]
      simp [cls, ofP]
    by_cases o6 : c.op = 6
    · simp -implicitDefEqProofs -dsimp only [go_sem, v, u, r, r', o6]
      simp [cls, ofP]
    · simp -implicitDefEqProofs -dsimp only [go_sem, v, u, r, r', o4, o5, o1, o2, o3, o6]
      simp [cls, ofP]
theorem meet_lim (o1 o2 : Bool) (a b : List Cel) (ha : a.length ≤ 1000) (hb : b.length ≤ 1000) : lim Try.prog cfg 55 [.list o1 2 (cls a), .list o2 2 (cls b)] h = some (vb (meetB a b), h) := by
  refine lim_funp fun55 rfl (by simp) (by simp [heapFree, free_cls]) rfl ?_
  delta cd55
  simp -implicitDefEqProofs -dsimp only [go_sem]
  refine wp_for (σ := Nat) (fun k => [(0, .list false 2 (cls a)), (1, .list false 2 (cls b)), (5, vi (k : Nat))]) (fun _ => []) (fun k => a.length - k) (fun k => k ≤ a.length ∧ ∀ j (hj : j < a.length), j < k → a[j] ∉ b) 0 (by simp) rfl rfl ?_
  rintro k ⟨hk, hj⟩ N hN
  by_cases hlt : k < a.length
  · have h1 : ((k : Int) < (a.length : Int)) := by omega
    simp -implicitDefEqProofs -dsimp only [go_sem, h1]
    refine wp_for (σ := Nat) (fun i => [(0, .list false 2 (cls a)), (1, .list false 2 (cls b)), (5, vi (k : Nat)), (6, vi (i : Nat))]) (fun _ => []) (fun i => b.length - i) (fun i => i ≤ b.length ∧ ∀ j (hj : j < b.length), j < i → a[k] ≠ b[j]) 0 (by simp) rfl rfl ?_
    rintro i ⟨hi, hji⟩ N2 hN2
    by_cases hlt2 : i < b.length
    · have h2 : ((i : Int) < (b.length : Int)) := by omega
      simp -implicitDefEqProofs -dsimp only [go_sem, h2, hlt, hlt2, eqs_cel]
      refine ⟨fun hc => ?_, fun hc => hN2 (i + 1) _ (by omega) ⟨by omega, fun j hj1 hj2 => ?_⟩ ?_⟩
      · have e : meetB a b = true := by
          unfold meetB
          rw [List.any_eq_true]
          exact ⟨a[k], List.getElem_mem _, by simp only [decide_eq_true_eq]; rw [hc]; exact List.getElem_mem _⟩
        rw [e]
      · by_cases e : j = i
        · subst e; exact hc
        · exact hji j hj1 (by omega)
      · simp -implicitDefEqProofs -dsimp only [go_sem, wrap_succ (show i < 9223372036854775807 by omega)]
    · have h2 : ¬ ((i : Int) < (b.length : Int)) := by omega
      simp -implicitDefEqProofs -dsimp only [go_sem, h2]
      refine hN (k + 1) _ (by omega) ⟨by omega, fun j hj1 hj2 => ?_⟩ ?_
      · by_cases e : j = k
        · subst e
          intro hmem
          obtain ⟨q, hq, e⟩ := List.getElem_of_mem hmem
          exact hji q hq (by omega) e.symm
        · exact hj j hj1 (by omega)
      · simp -implicitDefEqProofs -dsimp only [go_sem, wrap_succ (show k < 9223372036854775807 by omega)]
  · have h1 : ¬ ((k : Int) < (a.length : Int)) := by omega
    have e : meetB a b = false := by
      unfold meetB
      rw [← Bool.not_eq_true, List.any_eq_true]
      rintro ⟨c, hc, h2⟩
      obtain ⟨q, hq, rfl⟩ := List.getElem_of_mem hc
      exact hj q hq (by omega) (by simpa using h2)
    simp -implicitDefEqProofs -dsimp only [go_sem, h1, e]
theorem rpaths_lim (a b : Cmd) (ha : a.path.length ≤ 1048575) (hb : b.path.length ≤ 1048575) : lim Try.prog cfg 38 [cmdD a, cmdD b] h = some (vb (pathsB a b), h) := by
  refine lim_funp fun38 rfl (by simp) rfl rfl ?_
  delta cd38
  have v := rcells_lim (h := []) a ha
  have w := rcells_lim (h := []) b hb
  have la := uses_le a
  have lb := uses_le b
  have x := meet_lim (h := []) false false (usesP a).2 (usesP b).1 (by omega) (by omega)
  have y := meet_lim (h := []) false false (usesP a).2 (usesP b).2 (by omega) (by omega)
  have z := meet_lim (h := []) false false (usesP b).2 (usesP a).1 (by omega) (by omega)
  rw [paths_meet]
  generalize meetB (usesP a).2 (usesP b).1 = p at x ⊢
  generalize meetB (usesP a).2 (usesP b).2 = q at y ⊢
  generalize meetB (usesP b).2 (usesP a).1 = r at z ⊢
  cases p <;> cases q <;> cases r <;> simp -implicitDefEqProofs -dsimp only [go_sem, v, w, x, y, z]
theorem rcontrol_lim (c : Cmd) : lim Try.prog cfg 42 [cmdD c] h = some (vb (controlB c), h) := by
  refine lim_funp fun42 rfl (by simp) rfl rfl ?_
  delta cd42
  have hb : controlB c = (decide (c.op = 7) || decide (c.op = 8) || decide (c.op = 9)) := by
    unfold controlB
    rw [Bool.eq_iff_iff]
    simp only [Bool.and_eq_true, Bool.or_eq_true, decide_eq_true_eq]
    omega
  rw [hb]
  by_cases h7 : c.op = 7
  · simp -implicitDefEqProofs -dsimp only [go_sem, h7]
  by_cases h8 : c.op = 8
  · simp -implicitDefEqProofs -dsimp only [go_sem, h7, h8]
  by_cases h9 : c.op = 9
  · simp -implicitDefEqProofs -dsimp only [go_sem, h7, h8, h9]
  · simp -implicitDefEqProofs -dsimp only [go_sem, h7, h8, h9]
theorem rboth_lim (a b : Cmd) (ha : a.path.length ≤ 1048575) (hb : b.path.length ≤ 1048575) : lim Try.prog cfg 40 [cmdD a, cmdD b] h = some (vb (bothB a b), h) := by
  refine lim_funp fun40 rfl (by simp) rfl rfl ?_
  delta cd40
  have v := rcontrol_lim (h := []) a
  have w := rcontrol_lim (h := []) b
  have x := rpaths_lim (h := []) a b ha hb
  unfold bothB
  by_cases o1 : a.op = 0
  · simp -implicitDefEqProofs -dsimp only [go_sem, o1]
    simp
  by_cases o2 : b.op = 0
  · simp -implicitDefEqProofs -dsimp only [go_sem, o1, o2]
    simp
  generalize controlB a = p at v ⊢
  generalize controlB b = q at w ⊢
  generalize pathsB a b = z at x ⊢
  cases p <;> cases q <;> cases z <;> simp -implicitDefEqProofs -dsimp only [go_sem, o1, o2, v, w, x] <;> by_cases o3 : a.client = b.client <;> simp [o3]
theorem cells_lim (o1 o2 : Bool) (l m : List Cel) (hl : l.length ≤ 1000) : lim Try.prog cfg 34 [.list o1 2 (cls l), .list o2 2 (cls m)] h = some (vb (decide (l = m)), h) := by
  refine lim_funp fun34 rfl (by simp) (by simp [heapFree, free_cls]) rfl ?_
  delta cd34
  by_cases hlen : l.length = m.length
  · simp -implicitDefEqProofs -dsimp only [go_sem, hlen]
    refine wp_for (σ := Nat) (fun k => [(0, .list false 2 (cls l)), (1, .list false 2 (cls m)), (5, vi (k : Nat))]) (fun _ => []) (fun k => m.length - k) (fun k => k ≤ m.length ∧ l.take k = m.take k) 0 (by simp) rfl rfl ?_
    rintro k ⟨hk, hj⟩ N hN
    by_cases hlt : k < m.length
    · have hlt' : k < l.length := by omega
      have h1 : ((k : Int) < (l.length : Int)) := by omega
      by_cases e1 : l[k].1 = m[k].1
      · by_cases e2 : l[k].2 = m[k].2
        · simp -implicitDefEqProofs -dsimp only [go_sem, h1, hlt, hlt', e1, e2]
          refine hN (k + 1) _ (by omega) ⟨by omega, ?_⟩ ?_
          · rw [List.take_succ_eq_append_getElem hlt', List.take_succ_eq_append_getElem hlt, hj, Prod.ext e1 e2]
          · simp -implicitDefEqProofs -dsimp only [go_sem, wrap_succ (show k < 9223372036854775807 by omega)]
        · have e2' : ¬ ((l[k].2.toNat : Int) = (m[k].2.toNat : Int)) := fun e => e2 (UInt8.toNat_inj.1 (by omega))
          have e : l ≠ m := fun e => by subst e; exact e2 rfl
          simp -implicitDefEqProofs -dsimp only [go_sem, h1, hlt, hlt', e1, e2', e]
      · have e : l ≠ m := fun e => by subst e; exact e1 rfl
        simp -implicitDefEqProofs -dsimp only [go_sem, h1, hlt, hlt', e1, e]
    · have h1 : ¬ ((k : Int) < (l.length : Int)) := by omega
      have : k = m.length := by omega
      subst this
      rw [List.take_length, ← hlen, List.take_length] at hj
      rw [decide_eq_true hj]
      simp -implicitDefEqProofs -dsimp only [go_sem, h1]
  · have h1 : ¬ ((l.length : Int) = (m.length : Int)) := by omega
    have e : l ≠ m := fun e => hlen (by rw [e])
    simp -implicitDefEqProofs -dsimp only [go_sem, h1, e]
end Go.DS
