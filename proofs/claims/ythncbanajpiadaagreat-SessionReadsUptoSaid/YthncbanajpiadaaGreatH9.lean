/-
  Commands, and cells of paths: plain.
-/
import Derived.Test.YthncbanajpiadaaGreatH8
import Derived.Test.YthncbanajpiadaaGreatRows
import Derived.WalkKit
import Derived.ProofKit
import Derived.Deep.Strs
import Derived.ChangeArms
import Derived.DataReads
set_option linter.unusedSimpArgs false
set_option linter.unusedVariables false
namespace Go.DS
open Go
attribute [go_sem] exists_true_left exists_prop
abbrev Cel := Str × UInt8
abbrev cel (c : Cel) : List DV := [vs c.1, .sc (.int .u8 c.2.toNat)]
def cls (l : List Cel) : List (List DV) := l.map fun c => [vs c.1, .sc (.int .u8 c.2.toNat)]
@[go_sem] theorem cls_len (l : List Cel) : (cls l).length = l.length := by simp [cls]
@[go_sem] theorem cls_app (l m : List Cel) : cls l ++ cls m = cls (l ++ m) := by simp [cls]
@[go_sem high] theorem idxP_cls (l : List Cel) (i : Int) (N : List DV → Prop) : IdxP (cls l) i N = IdxP l i fun c => N [vs c.1, .sc (.int .u8 c.2.toNat)] := idxP_map
theorem free_cls : ∀ l : List Cel, heapFree.alls (cls l) = true
  | [] => rfl
  | s :: l => by
    have := free_cls l
    simp only [cls] at this
    simp only [cls, List.map_cons, heapFree.alls, heapFree.all, heapFree, this, Bool.and_self]
/-- Bytes, as a list. -/
def bys (l : List UInt8) : List (List DV) := l.map fun b => [.sc (.int .u8 b.toNat)]
@[go_sem] theorem bys_len (l : List UInt8) : (bys l).length = l.length := by simp [bys]
@[go_sem high] theorem idxP_bys (l : List UInt8) (i : Int) (N : List DV → Prop) : IdxP (bys l) i N = IdxP l i fun c => N [.sc (.int .u8 c.toNat)] := idxP_map
theorem free_bys : ∀ l : List UInt8, heapFree.alls (bys l) = true
  | [] => rfl
  | s :: l => by
    have := free_bys l
    simp only [bys] at this
    simp only [bys, List.map_cons, heapFree.alls, heapFree.all, heapFree, this, Bool.and_self]
/-- A command. -/
structure Cmd where
  client : Int
  seq : Int
  op : Int
  path : Str
  value : Str
  version : Int
  a : Int
  b : Int
  deriving DecidableEq
abbrev cmdL (c : Cmd) : List DV := [vi c.client, vi c.seq, vi c.op, vs c.path, vs c.value, vi c.version, vi c.a, vi c.b]
abbrev cmdD (c : Cmd) : DV := .agg [vi c.client, vi c.seq, vi c.op, vs c.path, vs c.value, vi c.version, vi c.a, vi c.b]
def cms (l : List Cmd) : List (List DV) := l.map fun c => [vi c.client, vi c.seq, vi c.op, vs c.path, vs c.value, vi c.version, vi c.a, vi c.b]
@[go_sem] theorem cms_len (l : List Cmd) : (cms l).length = l.length := by simp [cms]
@[go_sem high] theorem idxP_cms (l : List Cmd) (i : Int) (N : List DV → Prop) : IdxP (cms l) i N = IdxP l i fun c => N [vi c.client, vi c.seq, vi c.op, vs c.path, vs c.value, vi c.version, vi c.a, vi c.b] := idxP_map
theorem free_cms : ∀ l : List Cmd, heapFree.alls (cms l) = true
  | [] => rfl
  | s :: l => by
    have := free_cms l
    simp only [cms] at this
    simp only [cms, List.map_cons, heapFree.alls, heapFree.all, heapFree, this, Bool.and_self]

def ofP (p : Str) (l : List UInt8) : List Cel := l.map fun b => (p, b)
/-- What is read, what is written. -/
def usesP (c : Cmd) : List Cel × List Cel :=
  if parse c.path = none then ([], []) else
  if c.op = 4 then (ofP c.path [101, 118], []) else
  if c.op = 5 then (ofP c.path [101, 107], []) else
  if parentP c.path = [] then (if c.op = 1 then (ofP c.path [101], []) else ([], [])) else
  if c.op = 1 then (ofP (parentP c.path) [101] ++ ofP c.path [101], ofP c.path [101, 118] ++ ofP (parentP c.path) [107]) else
  if c.op = 2 then (ofP c.path [101, 107], ofP c.path [101, 118] ++ ofP (parentP c.path) [107]) else
  if c.op = 3 then (ofP c.path [101], ofP c.path [118]) else
  if c.op = 6 then (ofP c.path [101, 118], ofP c.path [118]) else ([], [])
theorem uses_le (c : Cmd) : (usesP c).1.length ≤ 3 ∧ (usesP c).2.length ≤ 3 := by
  unfold usesP
  repeat' split
  all_goals simp [ofP]
theorem root_iff {p : Str} {l : List Str} (h : parse p = some l) : parentP p = [] ↔ p = [47] := by
  obtain ⟨h1, h2⟩ := parse_some h
  have hn : namesP p = l := by simp [namesP, h]
  unfold parentP
  rw [hn]
  constructor
  · intro h3
    split at h3
    · rename_i h4; subst h4; rw [h2]; simp [pathOf, join_nil]
    · simp [pathOf] at h3
  · intro h3
    subst h3
    rw [parse_root] at h
    cases h
    simp
/-- The set of cells, as a map. -/
def mcs (l : List Cel) : List (DV × DV) := l.map fun c => (.agg [vs c.1, .sc (.int .u8 c.2.toNat)], .sc (.bool true))
def insC (c : Cel) (l : List Cel) : List Cel := if c ∈ l then l else l ++ [c]
def insAll (l : List Cel) : List Cel := l.foldl (fun m c => insC c m) []
theorem insAll_snoc (l : List Cel) (c : Cel) : insAll (l ++ [c]) = insC c (insAll l) := by simp [insAll]
theorem mem_insC {c d : Cel} {l : List Cel} : d ∈ insC c l ↔ d = c ∨ d ∈ l := by
  unfold insC
  split
  · rename_i h
    exact ⟨.inr, fun hd => hd.elim (fun e => e ▸ h) id⟩
  · simp [or_comm]
theorem mem_insAll {d : Cel} (l : List Cel) : d ∈ insAll l ↔ d ∈ l := by
  have : ∀ (l m : List Cel), d ∈ l.foldl (fun m c => insC c m) m ↔ d ∈ l ∨ d ∈ m := by
    intro l
    induction l with
    | nil => intro m; simp
    | cons c l ih => intro m; simp only [List.foldl_cons, ih, mem_insC, List.mem_cons]; grind
  simp [insAll, this]
theorem eqK_cel (c d : Cel) : eqKey [2, 0] (.agg [vs c.1, .sc (.int .u8 c.2.toNat)]) (.agg [vs d.1, .sc (.int .u8 d.2.toNat)]) = some (decide (c = d)) := by
  have e := mkB_beq c.1 d.1
  have e2 : ((c.2.toNat : Int) == (d.2.toNat : Int)) = decide (c.2 = d.2) := by
    rw [Bool.eq_iff_iff]
    simp only [beq_iff_eq, decide_eq_true_eq]
    constructor
    · intro h; exact UInt8.toNat_inj.1 (by omega)
    · intro h; rw [h]
  simp only [eqKey, eqs, scs, eqV, eq1, e, e2, if_true]
  congr 1
  rw [Bool.eq_iff_iff]
  simp [Prod.ext_iff]
theorem find_mcs (c : Cel) : ∀ l : List Cel, findD [2, 0] (.agg [vs c.1, .sc (.int .u8 c.2.toNat)]) (mcs l) = some (if c ∈ l then some (.sc (.bool true)) else none)
  | [] => rfl
  | d :: l => by
    have ih := find_mcs c l
    simp only [mcs] at ih
    simp only [mcs, List.map_cons, findD, eqK_cel]
    by_cases h : c = d
    · simp [h]
    · simp only [h, decide_false, ih, List.mem_cons, false_or]
theorem set_mcs (c : Cel) : ∀ l : List Cel, setKey [2, 0] (.agg [vs c.1, .sc (.int .u8 c.2.toNat)]) (.sc (.bool true)) (mcs l) = some (mcs (insC c l))
  | [] => rfl
  | d :: l => by
    have ih := set_mcs c l
    simp only [mcs] at ih
    simp only [mcs, List.map_cons, setKey, eqK_cel]
    by_cases h : c = d
    · subst h; simp [insC]
    · simp only [h, decide_false, ih, Option.map_some, Option.some.injEq]
      have : insC c (d :: l) = d :: insC c l := by
        unfold insC
        simp only [List.mem_cons, h, false_or]
        split <;> rfl
      rw [this]; rfl
def spoilsP (w r x : List Cel) : Bool := w.any fun c => decide (c ∈ r ++ x)
def pathsB (a b : Cmd) : Bool := spoilsP (usesP a).2 (usesP b).1 (usesP b).2 || spoilsP (usesP b).2 (usesP a).1 (usesP a).2
def controlB (c : Cmd) : Bool := decide (7 ≤ c.op) && decide (c.op ≤ 9)
def bothB (a b : Cmd) : Bool := if a.op = 0 ∨ b.op = 0 then false else controlB a || controlB b || decide (a.client = b.client) || pathsB a b
theorem paths_comm (a b : Cmd) : pathsB a b = pathsB b a := by unfold pathsB; rw [Bool.or_comm]
def meetB (a b : List Cel) : Bool := a.any fun c => decide (c ∈ b)
theorem paths_meet (a b : Cmd) : pathsB a b = (meetB (usesP a).2 (usesP b).1 || meetB (usesP a).2 (usesP b).2 || meetB (usesP b).2 (usesP a).1) := by
  rw [Bool.eq_iff_iff]
  simp only [pathsB, spoilsP, meetB, Bool.or_eq_true, List.any_eq_true, decide_eq_true_eq, List.mem_append]
  grind
def bigC (c : Cmd) : Bool := decide (300 < c.path.length) || decide (300 < c.value.length)
/-- Is there more than is looked at? -/
def overP (l : List Cmd) : Bool := (l.take 61).any bigC || decide (60 < l.length)
end Go.DS

/-
  The directory, plain.
-/
namespace Go.DS
open Go
set_option linter.unusedVariables false
/-- A reply. -/
structure Rep where
  err : Int := 0
  value : Str := []
  version : Int := 0
  names : List Str := []
  deriving DecidableEq
abbrev repD (r : Rep) : DV := .agg [vi r.err, vs r.value, vi r.version, .list false 1 (ts r.names)]
/-- Entries: a path, its value, its version. -/
abbrev Dir := List (Str × (Str × Int))
abbrev entK : Str → DV := fun p => .sc (.string (mkB p))
abbrev entV : Str × Int → DV := fun v => .agg [.sc (.string (mkB v.1)), .sc (.int .i64 v.2)]
def thereB (es : Dir) (p : Str) : Bool := (aget p es).isSome || decide (p = [47])
def rightB (c : Cmd) : Bool := (parse c.path).isSome && (decide (¬ (c.op = 1 ∨ c.op = 3 ∨ c.op = 6)) || decide (c.value.length ≤ 64)) && (decide (¬ (c.op = 2 ∨ c.op = 3 ∨ c.op = 6)) || decide (c.path ≠ [47]))
def childs (es : Dir) (p : Str) : List Str := sortC Lib.compareBytes (((keys es).filter fun k => decide (parentP k = p)).map lastP)
/-- Its entries, rising. -/
def entriesP (es : Dir) : List (Str × (Str × Int)) := (sortC ordP (keys es)).map fun k => (k, (aget k es).getD ([], 0))
def curP (es : Dir) (p : Str) : Str × Int := (aget p es).getD ([], 0)
def setR (es : Dir) (c : Cmd) : Rep × Dir := ({ version := (curP es c.path).2 + 1 }, aset c.path (c.value, (curP es c.path).2 + 1) es)
def createP (es : Dir) (c : Cmd) : Rep × Dir :=
  if thereB es c.path = true then ({ err := 3 }, es) else if thereB es (parentP c.path) = false then ({ err := 2 }, es) else ({ version := 1 }, aset c.path (c.value, 1) es)
def removeP (es : Dir) (c : Cmd) : Rep × Dir := if childs es c.path ≠ [] then ({ err := 4 }, es) else ({}, adel c.path es)
def casP (es : Dir) (c : Cmd) : Rep × Dir := if (curP es c.path).2 ≠ c.version then ({ err := 5, version := (curP es c.path).2 }, es) else setR es c
/-- What a command does. -/
def applyP (es : Dir) (c : Cmd) : Rep × Dir :=
  if (c.op < 1 ∨ 6 < c.op) ∨ rightB c = false then ({ err := 1 }, es)
  else if c.op = 1 then createP es c
  else if thereB es c.path = false then ({ err := 2 }, es)
  else if c.op = 2 then removeP es c
  else if c.op = 3 then setR es c
  else if c.op = 4 then ({ value := (curP es c.path).1, version := (curP es c.path).2 }, es)
  else if c.op = 5 then ({ names := childs es c.path }, es)
  else casP es c
/-- What a directory's entries are like. -/
structure DirOK (n m : Nat) (es : Dir) : Prop where
  nodup : (keys es).Nodup
  path : ∀ k ∈ keys es, ∃ l, parse k = some l ∧ l ≠ []
  up : ∀ k ∈ keys es, parentP k = [47] ∨ parentP k ∈ keys es
  value : ∀ e ∈ es, e.2.1.length ≤ 64
  version : ∀ e ∈ es, 1 ≤ e.2.2 ∧ e.2.2 ≤ m
  len : es.length ≤ n
theorem dirOK_nil (n m : Nat) : DirOK n m [] := ⟨by simp [keys], by simp [keys], by simp [keys], by simp, by simp, by simp⟩
/-- Paths' order: it parts two that are not one. -/
theorem ordP_lt {a b : Str} {la lb : List Str} (ha : parse a = some la) (hb : parse b = some lb) : ordP a b < 0 ↔ cmpF Lib.compareBytes la lb < 0 := by
  unfold ordP lessP
  rw [ha, hb]
  by_cases h : cmpF Lib.compareBytes la lb < 0
  · simp [h]
  · by_cases h2 : a = b <;> simp [h, h2]
theorem parse_inj {a b : Str} {l : List Str} (ha : parse a = some l) (hb : parse b = some l) : a = b := (parse_some ha).2.trans (parse_some hb).2.symm
structure OrdOK (cf : Str → Str → Int) (ks : List Str) : Prop where
  irrefl : ∀ a ∈ ks, ¬ cf a a < 0
  trans : ∀ a ∈ ks, ∀ b ∈ ks, ∀ c ∈ ks, cf a b < 0 → cf b c < 0 → cf a c < 0
  ntrans : ∀ a ∈ ks, ∀ b ∈ ks, ∀ c ∈ ks, ¬ cf a b < 0 → ¬ cf b c < 0 → ¬ cf a c < 0
  total : ∀ a ∈ ks, ∀ b ∈ ks, ¬ cf a b < 0 → ¬ cf b a < 0 → a = b
theorem ordOK_cmp (ks : List Str) : OrdOK Lib.compareBytes ks :=
  ⟨fun a _ => cmpB_total.irrefl a, fun a _ b _ c _ => cmpB_total.trans a b c, fun a _ b _ c _ => cmpB_total.ntrans a b c, fun a _ b _ => cmpB_total.total a b⟩
theorem ordOK_path {ks : List Str} (hv : ∀ k ∈ ks, ∃ l, parse k = some l) : OrdOK ordP ks := by
  have T := cmpF_total cmpB_total
  refine ⟨fun a ha => ?_, fun a ha b hb c hc => ?_, fun a ha b hb c hc => ?_, fun a ha b hb => ?_⟩
  · obtain ⟨la, e1⟩ := hv a ha
    rw [ordP_lt e1 e1]; exact T.irrefl _
  · obtain ⟨la, e1⟩ := hv a ha
    obtain ⟨lb, e2⟩ := hv b hb
    obtain ⟨lc, e3⟩ := hv c hc
    rw [ordP_lt e1 e2, ordP_lt e2 e3, ordP_lt e1 e3]; exact T.trans _ _ _
  · obtain ⟨la, e1⟩ := hv a ha
    obtain ⟨lb, e2⟩ := hv b hb
    obtain ⟨lc, e3⟩ := hv c hc
    rw [ordP_lt e1 e2, ordP_lt e2 e3, ordP_lt e1 e3]; exact T.ntrans _ _ _
  · obtain ⟨la, e1⟩ := hv a ha
    obtain ⟨lb, e2⟩ := hv b hb
    rw [ordP_lt e1 e2, ordP_lt e2 e1]
    intro h1 h2
    have := T.total la lb h1 h2
    subst this
    exact parse_inj e1 e2
theorem path_le {p : Str} {l : List Str} (h : parse p = some l) : p.length ≤ 137 := by
  obtain ⟨h1, h2⟩ := parse_some h
  have h3 := okL_names h1
  have := join_le l fun s hs => nameOK_le (h3.2 s hs)
  rw [h2]
  simp only [pathOf, List.length_cons]
  omega
end Go.DS

/-
  Walks: what the functions that are told by proofs come to, at a directory.
-/
namespace Go.DS
open Go Go.Proofs
set_option maxRecDepth 100000
set_option linter.unusedVariables false
set_option linter.unusedSimpArgs false
@[go_sem] theorem ok63 : calleeOK Tryz.prog 63 = true := by kernel_rfl
@[go_sem] theorem ex63 : (cfg.ext 63).isSome = true := rfl
@[go_sem] theorem ok117 : calleeOK Tryz.prog 117 = true := by kernel_rfl
@[go_sem] theorem ex117 : (cfg.ext 117).isSome = true := rfl
@[go_sem] theorem ok68 : calleeOK Tryz.prog 68 = true := by kernel_rfl
@[go_sem] theorem ex68 : (cfg.ext 68).isSome = true := rfl
def cd69 : Cd := .seq (R [c0 1 (.new true (.s 0)), c0 2 (.tk (.c (.sc .nilFunc)))] [1]) (.seq (R [c0 3 (.mkf (.func 101) 0 [(.s 1)]), c0 2 (.tk (.s 3))] [1, 2]) (.ret))
theorem fun69 : Fun Tryz.prog cfg 69 4 cd69 [.s 2] := ⟨rfl, Tryz.f69, _, Tryz.func69, rfl, rfl, by kernel_rfl, by kernel_rfl⟩
@[go_sem] theorem ok69 : calleeOK Tryz.prog 69 = true := by kernel_rfl
@[go_sem] theorem ex69 : (cfg.ext 69).isSome = false := rfl
@[go_sem] theorem ok101 : calleeOK Tryz.prog 101 = true := by kernel_rfl
@[go_sem] theorem ex101 : (cfg.ext 101).isSome = false := rfl
@[go_sem] theorem ok70 : calleeOK Tryz.prog 70 = true := by kernel_rfl
@[go_sem] theorem ex70 : (cfg.ext 70).isSome = false := rfl
@[go_sem] theorem ok149 : calleeOK Tryz.prog 149 = true := by kernel_rfl
@[go_sem] theorem ex149 : (cfg.ext 149).isSome = false := rfl
variable {h : DHeap}
/-- A directory's map. -/
abbrev dirM (es : Dir) : DObj := .map (amap entK entV es)
theorem amap_keys (es : Dir) : (amap entK entV es).map (fun e => keyS e.1) = keys es := by
  simp only [amap, keys, List.map_map]
  exact List.map_congr_left fun e _ => rfl
theorem keysOK_dir {n m : Nat} {es : Dir} (H : DirOK n m es) (hn : n ≤ 1048576) : KeysOK (amap entK entV es) (keys es) :=
  ⟨by simp only [amap, keys, List.map_map]; rfl, H.nodup, by rw [keys_len]; have := H.len; omega, fun k hk => by obtain ⟨l, hl, _⟩ := H.path k hk; have := path_le hl; omega⟩
theorem sortOK_ord {ks : List Str} (hv : ∀ k ∈ ks, ∃ l, parse k = some l) : SortOK Tryz.prog 70 ordP ks :=
  have O := ordOK_path hv
  ⟨by kernel_rfl, fun a ha b hb => by
    obtain ⟨la, ea⟩ := hv a ha
    obtain ⟨lb, eb⟩ := hv b hb
    exact @lim_sound ⟨true⟩ Tryz.prog cfgA ext_okA 70 [txt a, txt b] [] _ [] (M.order_lim a b (by have := path_le ea; omega) (by have := path_le eb; omega)), O.irrefl, O.trans, O.ntrans, O.total⟩
theorem sortOK_cmp (ks : List Str) : SortOK Tryz.prog 149 Lib.compareBytes ks :=
  have O := ordOK_cmp ks
  ⟨by kernel_rfl, fun a ha b hb => @lim_sound ⟨true⟩ Tryz.prog cfgA ext_okA 149 [txt a, txt b] [] _ [] (M.cmpS_lim a b), O.irrefl, O.trans, O.ntrans, O.total⟩
theorem clone_lim {i : Nat} {es : List (DV × DV)} (hi : h[i]? = some (.map es)) : lim Tryz.prog cfg 63 [.mp i] h = some (.mp h.length, h ++ [.map es]) := by
  refine lim_ext rfl ?_ rfl
  show cloneF [.mp i] h = _
  simp only [cloneF, hi]
theorem keysOf_lim (j : Nat) : lim Tryz.prog cfg 69 [.mp j] h = some (.fn (.func 101) [] [.ptr h.length 0], h ++ [.cells [.mp j]]) := by
  refine lim_fun fun69 rfl (by simp) rfl ?_
  delta cd69
  simp -implicitDefEqProofs -dsimp only [go_sem]
theorem sorted_lim {i j n m : Nat} {es : Dir} (H : DirOK n m es) (hn : n ≤ 1048576) (hi : h[i]? = some (.cells [.mp j])) (hj : h[j]? = some (dirM es)) :
    lim Tryz.prog cfg 68 [.fn (.func 101) [] [.ptr i 0], .fn (.func 70) [] []] h = some (vts true (sortC ordP (keys es)), h) := by
  refine lim_ext rfl ?_ rfl
  show keysF _ _ _ _ [.fn (.func 101) [] [.ptr i 0], .fn (.func 70) [] []] h = _
  simp only [keysF, hi, hj]
  generalize hks : (amap entK entV es).map (fun e => keyS e.1) = ks
  rw [amap_keys] at hks
  subst hks
  rw [if_pos ⟨rfl, rfl, keysOK_dir H hn, sortOK_ord fun k hk => by obtain ⟨l, hl, _⟩ := H.path k hk; exact ⟨l, hl⟩⟩]
theorem names_lim7 {i j n m : Nat} {es : Dir} (H : DirOK n m es) (hn : n ≤ 1048576) (hi : h[i]? = some (.cells [.mp j])) (hj : h[j]? = some (dirM es)) (p : Str) :
    lim Tryz.prog cfg 117 [.ptr i 0, vs p] h = some (vts true (childs es p), h) := by
  refine lim_ext rfl ?_ rfl
  show namesF _ _ _ _ _ _ _ [.ptr i 0, .sc (.string (mkB p))] h = _
  simp only [namesF, hi, hj]
  generalize hks : (amap entK entV es).map (fun e => keyS e.1) = ks
  rw [amap_keys] at hks
  subst hks
  have hk : ∀ k ∈ keys es, k.length ≤ 1099511627776 := (keysOK_dir H hn).lens
  rw [if_pos ⟨keysOK_dir H hn, fun k hk' => ⟨lim_sound ext_ok _ _ _ _ _ (parent_lim (h := []) k (hk k hk')), lim_sound ext_ok _ _ _ _ _ (last_lim (h := []) k (hk k hk'))⟩, sortOK_cmp _⟩]
  rfl
end Go.DS

/-
  Walks: the functions of dir.
-/
namespace Go.DS
open Go Go.Proofs
set_option maxRecDepth 100000
set_option linter.unusedVariables false
set_option linter.unusedSimpArgs false
def cd31 : Cd := .seq (R [c0 0 (.tk (.c (.sc (.pointer none))))] [3]) (.seq (R [c0 1 (.mkm), c0 2 (.bld [.sc (.map none)] [(0, 1, (.s 1))]), c0 3 (.new true (.s 2)), c0 0 (.tk (.s 3))] [0, 3]) (.ret))
theorem fun31 : Fun Tryz.prog cfg 31 4 cd31 [.s 0] := ⟨rfl, Tryz.f31, _, Tryz.func31, rfl, rfl, by kernel_rfl, by kernel_rfl⟩
@[go_sem] theorem ok31 : calleeOK Tryz.prog 31 = true := by kernel_rfl
@[go_sem] theorem ex31 : (cfg.ext 31).isSome = false := rfl
def cd35 : Cd := .seq (R [c0 2 (.tk (.c (.sc (.pointer none))))] [0, 9]) (.seq (R [c0 3 (.mv (.s 0)), c0 4 (.mov 0 (.s 3)), c0 5 (.mov 0 (.s 4)), c0 6 (.ld false 1 (.s 5)), c0 7 (.call none (.c (kf 63)) [(.s 6)]), c0 8 (.bld [.sc (.map none)] [(0, 1, (.s 7))]), c0 9 (.new true (.s 8)), c0 2 (.tk (.s 9))] [2, 9]) (.ret))
theorem fun35 : Fun Tryz.prog cfg 35 10 cd35 [.s 2] := ⟨rfl, Tryz.f35, _, Tryz.func35, rfl, rfl, by kernel_rfl, by kernel_rfl⟩
@[go_sem] theorem ok35 : calleeOK Tryz.prog 35 = true := by kernel_rfl
@[go_sem] theorem ex35 : (cfg.ext 35).isSome = false := rfl
def cd62 : Cd := .seq (R [cb 4 (.tk (.c (kb false)))] [0, 1, 5]) (.seq (R [c0 8 (.mv (.s 0)), c0 9 (.mov 0 (.s 8)), c0 10 (.mov 0 (.s 9)), c0 11 (.ld false 1 (.s 10)), c0 12 (.mv (.s 1)), c0 13 (.lkp [2] false 1 (.agg [ks [], ki .i64 0]) true (.s 11) (.s 12)), c0 7 (.tk (.s 13)), c0 14 (.exh (.s 7)), cb 15 (.ext (.s 7) 1), c0 5 (.new false (.c (.agg [ks [], ki .i64 0]))), cn (.st 2 (.s 5) (.s 14)), cb 6 (.tk (.s 15))] [1, 5, 6]) (.seq (R [cb 16 (.mv (.s 6)), cb 17 (.mv (.s 16)), cg 18 17 false (.mv (.s 1)), ch 19 17 false (.bin .eql .any (.s 18) (.c (ks [47]))), cb 20 (.pick (.s 17) (.c (kb true)) (.s 19)), cb 4 (.tk (.s 20))] [4, 5]) (.ret)))
theorem fun62 : Fun Tryz.prog cfg 62 21 cd62 [.s 4] := ⟨rfl, Tryz.f62, _, Tryz.func62, rfl, rfl, by kernel_rfl, by kernel_rfl⟩
@[go_sem] theorem ok62 : calleeOK Tryz.prog 62 = true := by kernel_rfl
@[go_sem] theorem ex62 : (cfg.ext 62).isSome = false := rfl
def cd60 : Cd := .seq (R [c0 2 (.new false (.c (.agg [ki .i64 0, ks [], ki .i64 0, kn 1])))] [0, 2]) (.seq (R [c0 3 (.mv (.s 0)), c0 4 (.bld [ki .i64 0, ks [], ki .i64 0, kz 1] [(0, 1, (.s 3))]), cn (.st 4 (.s 2) (.s 4))] [2]) (.ret))
theorem fun60 : Fun Tryz.prog cfg 60 5 cd60 [.b 2 true 4] := ⟨rfl, Tryz.f60, _, Tryz.func60, rfl, rfl, by kernel_rfl, by kernel_rfl⟩
@[go_sem] theorem ok60 : calleeOK Tryz.prog 60 = true := by kernel_rfl
@[go_sem] theorem ex60 : (cfg.ext 60).isSome = false := rfl
def cd61 : Cd := .seq (R [c0 3 (.new false (.s 1)), c0 4 (.new false (.c (.agg [ki .i64 0, ks [], ki .i64 0, kn 1])))] [0, 3, 4]) (.seq (.block 0 (.seq (R [c0 6 (.mv (.s 0)), c0 7 (.mov 3 (.s 3)), c0 8 (.ld false 1 (.s 7)), cb 9 (.call none (.c (kf 62)) [(.s 6), (.s 8)]), cb 5 (.tk (.s 9))] [0, 3, 4, 5]) (.ite (.s 5) (.seq (R [c0 10 (.call none (.c (kf 60)) [(.c (ki .i64 3))]), cn (.st 4 (.s 4) (.s 10))] [3, 4]) (.ret)) (.seq (R [c0 12 (.mv (.s 0)), c0 13 (.mov 3 (.s 3)), c0 14 (.ld false 1 (.s 13)), c0 15 (.call none (.c (kf 67)) [(.s 14)]), cb 16 (.call none (.c (kf 62)) [(.s 12), (.s 15)]), cb 17 (.un .not (.s 16)), cb 11 (.tk (.s 17))] [0, 3, 4, 11]) (.ite (.s 11) (.seq (R [c0 18 (.call none (.c (kf 60)) [(.c (ki .i64 2))]), cn (.st 4 (.s 4) (.s 18))] [3, 4]) (.ret)) (.skip)))))) (.seq (RD [cd (some 19) false none (.mv (.s 0)) false false [0], cd (some 20) false none (.mov 0 (.s 19)) false false [19], cd (some 21) false none (.mov 0 (.s 20)) false false [20], cd (some 22) false none (.ld false 1 (.s 21)) false false [21], cd (some 23) false none (.mov 3 (.s 3)) false false [3], cd (some 24) false none (.ld false 1 (.s 23)) false false [23], cd (some 25) false none (.mov 4 (.s 3)) false false [3], cd (some 26) false none (.ld false 1 (.s 25)) false false [25], cd (some 27) false none (.bld [ks [], ki .i64 0] [(0, 1, (.s 26)), (1, 1, (.c (ki .i64 1)))]) false false [26], cd none false none (.mup [2] false 1 (.s 22) (.s 24) (.s 27)) false false [22, 24, 27]] [3, 4] []) (.seq (R [c0 28 (.bld [ki .i64 0, ks [], ki .i64 0, kz 1] [(2, 1, (.c (ki .i64 1)))]), cn (.st 4 (.s 4) (.s 28))] [3, 4]) (.ret))))
theorem fun61 : Fun Tryz.prog cfg 61 29 cd61 [.b 4 true 4] := ⟨rfl, Tryz.f61, _, Tryz.func61, rfl, rfl, by kernel_rfl, by kernel_rfl⟩
@[go_sem] theorem ok61 : calleeOK Tryz.prog 61 = true := by kernel_rfl
@[go_sem] theorem ex61 : (cfg.ext 61).isSome = false := rfl
def cd88 : Cd := .seq (R [c0 3 (.new false (.s 1)), c0 4 (.new false (.c (.agg [ki .i64 0, ks [], ki .i64 0, kn 1])))] [0, 3, 4]) (.seq (.seq (R [c0 5 (.mv (.s 0)), c0 6 (.mov 3 (.s 3)), c0 7 (.ld false 1 (.s 6)), c0 8 (.call none (.c (kf 117)) [(.s 5), (.s 7)]), c0 9 (.len 1 (.s 8)), cb 10 (.bin .gtr .any (.s 9) (.c (ki .i64 0)))] [0, 3, 4, 10]) (.ite (.s 10) (.seq (R [c0 11 (.call none (.c (kf 60)) [(.c (ki .i64 4))]), cn (.st 4 (.s 4) (.s 11))] [3, 4]) (.ret)) (.skip))) (.seq (RD [cd (some 12) false none (.mv (.s 0)) false false [0], cd (some 13) false none (.mov 0 (.s 12)) false false [12], cd (some 14) false none (.mov 0 (.s 13)) false false [13], cd (some 15) false none (.ld false 1 (.s 14)) false false [14], cd (some 16) false none (.mov 3 (.s 3)) false false [3], cd (some 17) false none (.ld false 1 (.s 16)) false false [16], cd none false none (.del [2] false 1 (.s 15) (.s 17)) false false [15, 17]] [3, 4] []) (.seq (R [c0 18 (.bld [ki .i64 0, ks [], ki .i64 0, kz 1] []), cn (.st 4 (.s 4) (.s 18))] [3, 4]) (.ret))))
theorem fun88 : Fun Tryz.prog cfg 88 19 cd88 [.b 4 true 4] := ⟨rfl, Tryz.f88, _, Tryz.func88, rfl, rfl, by kernel_rfl, by kernel_rfl⟩
@[go_sem] theorem ok88 : calleeOK Tryz.prog 88 = true := by kernel_rfl
@[go_sem] theorem ex88 : (cfg.ext 88).isSome = false := rfl
def cd89 : Cd := .seq (R [c0 3 (.new false (.s 1)), c0 4 (.new false (.c (.agg [ki .i64 0, ks [], ki .i64 0, kn 1])))] [0, 3, 4, 5]) (.seq (RD [cd (some 6) false none (.mov 4 (.s 3)) false false [3], cd (some 7) false none (.ld false 1 (.s 6)) false false [6], cd (some 8) false none (.mv (.s 0)) false false [0], cd (some 9) false none (.mov 0 (.s 8)) false false [8], cd (some 10) false none (.mov 0 (.s 9)) false false [9], cd (some 11) false none (.ld false 1 (.s 10)) false false [10], cd (some 12) false none (.mov 3 (.s 3)) false false [3], cd (some 13) false none (.ld false 1 (.s 12)) false false [12], cd (some 14) false none (.lkp [2] false 1 (.agg [ks [], ki .i64 0]) false (.s 11) (.s 13)) false false [11, 13], cd (some 15) false none (.fld 1 false 1 (.s 14)) false false [14], cd (some 16) false none (.bin .add .any (.s 15) (.c (ki .i64 1))) false false [15], cd (some 17) false none (.bld [ks [], ki .i64 0] [(0, 1, (.s 7)), (1, 1, (.s 16))]) false false [7, 16], cd (some 5) false none (.new false (.c (.agg [ks [], ki .i64 0]))) true false [], cd none false none (.st 2 (.s 5) (.s 17)) false false [5, 17]] [0, 3, 4, 5] []) (.seq (RD [cd (some 18) false none (.mv (.s 0)) false false [0], cd (some 19) false none (.mov 0 (.s 18)) false false [18], cd (some 20) false none (.mov 0 (.s 19)) false false [19], cd (some 21) false none (.ld false 1 (.s 20)) false false [20], cd (some 22) false none (.mov 3 (.s 3)) false false [3], cd (some 23) false none (.ld false 1 (.s 22)) false false [22], cd (some 24) false none (.ld true 2 (.s 5)) false false [5], cd none false none (.mup [2] false 1 (.s 21) (.s 23) (.s 24)) false false [21, 23, 24]] [3, 4, 5] []) (.seq (R [c0 25 (.mov 1 (.s 5)), c0 26 (.ld false 1 (.s 25)), c0 27 (.bld [ki .i64 0, ks [], ki .i64 0, kz 1] [(2, 1, (.s 26))]), cn (.st 4 (.s 4) (.s 27))] [3, 4, 5]) (.ret))))
theorem fun89 : Fun Tryz.prog cfg 89 28 cd89 [.b 4 true 4] := ⟨rfl, Tryz.f89, _, Tryz.func89, rfl, rfl, by kernel_rfl, by kernel_rfl⟩
@[go_sem] theorem ok89 : calleeOK Tryz.prog 89 = true := by kernel_rfl
@[go_sem] theorem ex89 : (cfg.ext 89).isSome = false := rfl
def cd90 : Cd := .seq (R [c0 3 (.new false (.s 1)), c0 4 (.new false (.c (.agg [ki .i64 0, ks [], ki .i64 0, kn 1])))] [0, 3, 4]) (.seq (RD [cd (some 5) false none (.mv (.s 0)) false false [0], cd (some 6) false none (.mov 0 (.s 5)) false false [5], cd (some 7) false none (.mov 0 (.s 6)) false false [6], cd (some 8) false none (.ld false 1 (.s 7)) false false [7], cd (some 9) false none (.mov 3 (.s 3)) false false [3], cd (some 10) false none (.ld false 1 (.s 9)) false false [9], cd (some 11) false none (.lkp [2] false 1 (.agg [ks [], ki .i64 0]) false (.s 8) (.s 10)) false false [8, 10], cd (some 12) false none (.fld 0 false 1 (.s 11)) false false [11], cd (some 13) false none (.mv (.s 0)) false false [0], cd (some 14) false none (.mov 0 (.s 13)) false false [13], cd (some 15) false none (.mov 0 (.s 14)) false false [14], cd (some 16) false none (.ld false 1 (.s 15)) false false [15], cd (some 17) false none (.mov 3 (.s 3)) false false [3], cd (some 18) false none (.ld false 1 (.s 17)) false false [17], cd (some 19) false none (.lkp [2] false 1 (.agg [ks [], ki .i64 0]) false (.s 16) (.s 18)) false false [16, 18], cd (some 20) false none (.fld 1 false 1 (.s 19)) false false [19], cd (some 21) false none (.bld [ki .i64 0, ks [], ki .i64 0, kz 1] [(1, 1, (.s 12)), (2, 1, (.s 20))]) false false [12, 20], cd none false none (.st 4 (.s 4) (.s 21)) false false [4, 21]] [3, 4] []) (.ret))
theorem fun90 : Fun Tryz.prog cfg 90 22 cd90 [.b 4 true 4] := ⟨rfl, Tryz.f90, _, Tryz.func90, rfl, rfl, by kernel_rfl, by kernel_rfl⟩
@[go_sem] theorem ok90 : calleeOK Tryz.prog 90 = true := by kernel_rfl
@[go_sem] theorem ex90 : (cfg.ext 90).isSome = false := rfl
def cd91 : Cd := .seq (R [c0 3 (.new false (.s 1)), c0 4 (.new false (.c (.agg [ki .i64 0, ks [], ki .i64 0, kn 1])))] [0, 3, 4]) (.seq (R [c0 5 (.mv (.s 0)), c0 6 (.mov 3 (.s 3)), c0 7 (.ld false 1 (.s 6)), c0 8 (.call none (.c (kf 117)) [(.s 5), (.s 7)]), c0 9 (.bld [ki .i64 0, ks [], ki .i64 0, kz 1] [(3, 1, (.s 8))]), cn (.st 4 (.s 4) (.s 9))] [3, 4]) (.ret))
theorem fun91 : Fun Tryz.prog cfg 91 10 cd91 [.b 4 true 4] := ⟨rfl, Tryz.f91, _, Tryz.func91, rfl, rfl, by kernel_rfl, by kernel_rfl⟩
@[go_sem] theorem ok91 : calleeOK Tryz.prog 91 = true := by kernel_rfl
@[go_sem] theorem ex91 : (cfg.ext 91).isSome = false := rfl
def cd92 : Cd := .seq (R [c0 3 (.new false (.s 1)), c0 4 (.new false (.c (.agg [ki .i64 0, ks [], ki .i64 0, kn 1])))] [0, 3, 4]) (.seq (.seq (RD [cd (some 6) false none (.mv (.s 0)) false false [0], cd (some 7) false none (.mov 0 (.s 6)) false false [6], cd (some 8) false none (.mov 0 (.s 7)) false false [7], cd (some 9) false none (.ld false 1 (.s 8)) false false [8], cd (some 10) false none (.mov 3 (.s 3)) false false [3], cd (some 11) false none (.ld false 1 (.s 10)) false false [10], cd (some 12) false none (.lkp [2] false 1 (.agg [ks [], ki .i64 0]) false (.s 9) (.s 11)) false false [9, 11], cd (some 13) false none (.fld 1 false 1 (.s 12)) false false [12], cd (some 5) false none (.mv (.s 13)) false false [13]] [0, 3, 4, 5] []) (.seq (R [c0 14 (.mv (.s 5)), c0 15 (.mov 5 (.s 3)), c0 16 (.ld false 1 (.s 15)), cb 17 (.bin .neq .any (.s 14) (.s 16))] [0, 3, 4, 5, 17]) (.ite (.s 17) (.seq (R [c0 18 (.mv (.s 5)), c0 19 (.bld [ki .i64 0, ks [], ki .i64 0, kz 1] [(0, 1, (.c (ki .i64 5))), (2, 1, (.s 18))]), cn (.st 4 (.s 4) (.s 19))] [3, 4]) (.ret)) (.skip)))) (.seq (R [c0 20 (.mv (.s 0)), c0 21 (.ld true 8 (.s 3)), c0 22 (.call none (.c (kf 89)) [(.s 20), (.s 21)]), cn (.st 4 (.s 4) (.s 22))] [3, 4]) (.ret)))
theorem fun92 : Fun Tryz.prog cfg 92 23 cd92 [.b 4 true 4] := ⟨rfl, Tryz.f92, _, Tryz.func92, rfl, rfl, by kernel_rfl, by kernel_rfl⟩
@[go_sem] theorem ok92 : calleeOK Tryz.prog 92 = true := by kernel_rfl
@[go_sem] theorem ex92 : (cfg.ext 92).isSome = false := rfl
def cd58 : Cd := .seq (R [c0 0 (.tk (.c (.sc (.map none))))] []) (.seq (R [c0 1 (.mkm), cn (.mup [0] false 1 (.s 1) (.c (ki .i64 2)) (.c (kf 88))), cn (.mup [0] false 1 (.s 1) (.c (ki .i64 3)) (.c (kf 89))), cn (.mup [0] false 1 (.s 1) (.c (ki .i64 4)) (.c (kf 90))), cn (.mup [0] false 1 (.s 1) (.c (ki .i64 5)) (.c (kf 91))), cn (.mup [0] false 1 (.s 1) (.c (ki .i64 6)) (.c (kf 92))), c0 2 (.tk (.s 1)), c0 0 (.tk (.s 2))] [0]) (.ret))
theorem fun58 : Fun Tryz.prog cfg 58 3 cd58 [.s 0] := ⟨rfl, Tryz.f58, _, Tryz.func58, rfl, rfl, by kernel_rfl, by kernel_rfl⟩
@[go_sem] theorem ok58 : calleeOK Tryz.prog 58 = true := by kernel_rfl
@[go_sem] theorem ex58 : (cfg.ext 58).isSome = false := rfl
def cd59 : Cd := .seq (R [c0 1 (.new false (.s 0)), cb 2 (.tk (.c (kb false)))] [1]) (.seq (R [c0 5 (.mov 2 (.s 1)), c0 6 (.ld false 1 (.s 5)), cb 7 (.bin .eql .any (.s 6) (.c (ki .i64 1))), cb 8 (.mv (.s 7)), cg 9 8 false (.mov 2 (.s 1)), cg 10 8 false (.ld false 1 (.s 9)), ch 11 8 false (.bin .eql .any (.s 10) (.c (ki .i64 3))), cb 12 (.pick (.s 8) (.c (kb true)) (.s 11)), cb 13 (.mv (.s 12)), cg 14 13 false (.mov 2 (.s 1)), cg 15 13 false (.ld false 1 (.s 14)), ch 16 13 false (.bin .eql .any (.s 15) (.c (ki .i64 6))), cb 17 (.pick (.s 13) (.c (kb true)) (.s 16)), cb 3 (.tk (.s 17))] [1, 3]) (.seq (R [c0 18 (.mov 2 (.s 1)), c0 19 (.ld false 1 (.s 18)), cb 20 (.bin .eql .any (.s 19) (.c (ki .i64 2))), cb 21 (.mv (.s 20)), cg 22 21 false (.mov 2 (.s 1)), cg 23 21 false (.ld false 1 (.s 22)), ch 24 21 false (.bin .eql .any (.s 23) (.c (ki .i64 3))), cb 25 (.pick (.s 21) (.c (kb true)) (.s 24)), cb 26 (.mv (.s 25)), cg 27 26 false (.mov 2 (.s 1)), cg 28 26 false (.ld false 1 (.s 27)), ch 29 26 false (.bin .eql .any (.s 28) (.c (ki .i64 6))), cb 30 (.pick (.s 26) (.c (kb true)) (.s 29)), cb 4 (.tk (.s 30))] [1, 3, 4]) (.seq (R (c0 31 (.mov 3 (.s 1)) :: c0 32 (.ld false 1 (.s 31)) :: cb 33 (.call none (.c (kf 93)) [(.s 32)]) :: cb 34 (.mv (.s 33)) :: ch 35 34 true (.mv (.s 3)) :: ch 36 34 true (.un .not (.s 35)) :: ch 37 34 true (.mv (.s 36)) :: cg 38 37 false (.mov 4 (.s 1)) :: cg 39 37 false (.ld false 1 (.s 38)) :: cg 40 37 false (.len 0 (.s 39)) :: ch 41 37 false (.bin .leq .any (.s 40) (.c (ki .i64 64))) :: ch 42 34 true (.pick (.s 37) (.c (kb true)) (.s 41)) :: cb 43 (.pick (.s 34) (.s 42) (.c (kb false))) :: cb 44 (.mv (.s 43)) :: ch 45 44 true (.mv (.s 4)) :: ch 46 44 true (.un .not (.s 45)) :: ch 47 44 true (.mv (.s 46)) :: cg 48 47 false (.mov 3 (.s 1)) :: cg 49 47 false (.ld false 1 (.s 48)) :: ch 50 47 false (.bin .neq .any (.s 49) (.c (ks [47]))) :: ch 51 44 true (.pick (.s 47) (.c (kb true)) (.s 50)) :: cb 52 (.pick (.s 44) (.s 51) (.c (kb false))) :: cb 2 (.tk (.s 52)) :: []) [1, 2]) (.ret))))
theorem fun59 : Fun Tryz.prog cfg 59 53 cd59 [.s 2] := ⟨rfl, Tryz.f59, _, Tryz.func59, rfl, rfl, by kernel_rfl, by kernel_rfl⟩
@[go_sem] theorem ok59 : calleeOK Tryz.prog 59 = true := by kernel_rfl
@[go_sem] theorem ex59 : (cfg.ext 59).isSome = false := rfl
def cd34 : Cd := .seq (R [c0 3 (.new false (.s 1)), c0 4 (.new false (.c (.agg [ki .i64 0, ks [], ki .i64 0, kn 1])))] [0, 3, 4]) (.seq (RD [cd (some 6) false none (.call none (.c (kf 58)) []) false false [], cd (some 7) false none (.mov 2 (.s 3)) false false [3], cd (some 8) false none (.ld false 1 (.s 7)) false false [7], cd (some 9) false none (.lkp [0] false 1 (.sc .nilFunc) false (.s 6) (.s 8)) false false [6, 8], cd (some 5) false none (.mv (.s 9)) false false [9]] [0, 3, 4, 5] [7]) (.seq (.block 0 (.seq (R [c0 11 (.mv (.s 5)), cb 12 (.bin .eql .func (.s 11) (.c (.sc .nilFunc))), cb 13 (.mv (.s 12)), cg 14 13 true (.mov 2 (.s 3)), cg 15 13 true (.ld false 1 (.s 14)), ch 16 13 true (.bin .neq .any (.s 15) (.c (ki .i64 1))), cb 17 (.pick (.s 13) (.s 16) (.c (kb false))), cb 18 (.mv (.s 17)), cg 19 18 false (.ld true 8 (.s 3)), ch 20 18 false (.call none (.c (kf 59)) [(.s 19)]), ch 21 18 false (.un .not (.s 20)), cb 22 (.pick (.s 18) (.c (kb true)) (.s 21)), cb 10 (.tk (.s 22))] [0, 3, 4, 5, 10]) (.ite (.s 10) (.seq (R [c0 23 (.call none (.c (kf 60)) [(.c (ki .i64 1))]), cn (.st 4 (.s 4) (.s 23))] [3, 4]) (.ret)) (.seq (R [c0 25 (.mv (.s 5)), cb 26 (.bin .eql .func (.s 25) (.c (.sc .nilFunc))), cb 24 (.tk (.s 26))] [0, 3, 4, 5, 24]) (.ite (.s 24) (.seq (R [c0 27 (.mv (.s 0)), c0 28 (.ld true 8 (.s 3)), c0 29 (.call none (.c (kf 61)) [(.s 27), (.s 28)]), cn (.st 4 (.s 4) (.s 29))] [3, 4]) (.ret)) (.seq (R [c0 31 (.mv (.s 0)), c0 32 (.mov 3 (.s 3)), c0 33 (.ld false 1 (.s 32)), cb 34 (.call none (.c (kf 62)) [(.s 31), (.s 33)]), cb 35 (.un .not (.s 34)), cb 30 (.tk (.s 35))] [0, 3, 4, 5, 30]) (.ite (.s 30) (.seq (R [c0 36 (.call none (.c (kf 60)) [(.c (ki .i64 2))]), cn (.st 4 (.s 4) (.s 36))] [3, 4]) (.ret)) (.skip)))))))) (.seq (R [c0 37 (.mv (.s 5)), c0 38 (.mv (.s 0)), c0 39 (.ld true 8 (.s 3)), c0 40 (.call none (.s 37) [(.s 38), (.s 39)]), cn (.st 4 (.s 4) (.s 40))] [3, 4]) (.ret))))
theorem fun34 : Fun Tryz.prog cfg 34 41 cd34 [.b 4 true 4] := ⟨rfl, Tryz.f34, _, Tryz.func34, rfl, rfl, by kernel_rfl, by kernel_rfl⟩
@[go_sem] theorem ok34 : calleeOK Tryz.prog 34 = true := by kernel_rfl
@[go_sem] theorem ex34 : (cfg.ext 34).isSome = false := rfl
variable {h : DHeap}
/-- A directory stands in the heap. -/
structure At (h : DHeap) (i j : Nat) (es : Dir) : Prop where
  d : h[i]? = some (.cells [.mp j])
  m : h[j]? = some (dirM es)
theorem At.obj {i j : Nat} {es : Dir} (H : At h i j es) (N : List DV → Prop) : ObjP h i N = N [.mp j] := by simp only [ObjP, H.d]
theorem At.map {i j : Nat} {es : Dir} (H : At h i j es) (N : List (DV × DV) → Prop) : MapP h j N = N (amap entK entV es) := by simp only [MapP, H.m]
theorem At.ne {i j : Nat} {es : Dir} (H : At h i j es) : i ≠ j := fun e => by have := H.m; rw [← e, H.d] at this; cases this
theorem At.lt {i j : Nat} {es : Dir} (H : At h i j es) : i < h.length ∧ j < h.length := ⟨(List.getElem?_eq_some_iff.1 H.d).1, (List.getElem?_eq_some_iff.1 H.m).1⟩
theorem At.app {i j : Nat} {es : Dir} (H : At h i j es) (h' : DHeap) : At (h ++ h') i j es := ⟨by rw [List.getElem?_append_left H.lt.1]; exact H.d, by rw [List.getElem?_append_left H.lt.2]; exact H.m⟩
theorem At.set {i j : Nat} {es : Dir} (H : At h i j es) (es' : Dir) : At (h.set j (dirM es')) i j es' := ⟨by rw [List.getElem?_set_ne (Ne.symm H.ne)]; exact H.d, by rw [List.getElem?_set_self H.lt.2]⟩
theorem find_dir (p : Str) (es : Dir) : findD [2] (.sc (.string (mkB p))) (amap entK entV es) = some ((aget p es).map entV) := find_amap (V := entV) eqK_str p es
theorem new_lim : lim Tryz.prog cfg 31 [] h = some (.ptr (h.length + 1) 0, h ++ [.map []] ++ [.cells [.mp h.length]]) := by
  refine lim_fun fun31 rfl (by simp) rfl ?_
  delta cd31
  simp -implicitDefEqProofs -dsimp only [go_sem]
  simp
theorem dclone_lim {i j : Nat} {es : Dir} (H : At h i j es) : lim Tryz.prog cfg 35 [.ptr i 0] h = some (.ptr (h.length + 1) 0, h ++ [dirM es] ++ [.cells [.mp h.length]]) := by
  refine lim_fun fun35 rfl (by simp) rfl ?_
  delta cd35
  have hx := clone_lim H.m
  simp -implicitDefEqProofs -dsimp only [go_sem, H.obj, hx]
  simp
theorem there_lim {i j : Nat} {es : Dir} (H : At h i j es) (p : Str) : lim Tryz.prog cfg 62 [.ptr i 0, vs p] h = some (vb (thereB es p), h) := by
  refine lim_fun fun62 rfl (by simp) rfl ?_
  delta cd62
  cases hg : aget p es with
  | none =>
    simp -implicitDefEqProofs -dsimp only [go_sem, H.obj, H.map, find_dir, hg, Option.map_none, Option.getD_none]
    simp [thereB, hg]
  | some v =>
    simp -implicitDefEqProofs -dsimp only [go_sem, H.obj, H.map, find_dir, hg, Option.map_some, Option.getD_some]
    simp [thereB, hg]
@[go_sem] theorem no_lim (e : Int) : lim Tryz.prog cfg 60 [vi e] h = some (repD { err := e }, h) := by
  refine lim_funp fun60 rfl (by simp) rfl rfl ?_
  delta cd60
  simp -implicitDefEqProofs -dsimp only [go_sem]
  rfl
theorem create_lim {i j : Nat} {es : Dir} (H : At h i j es) (c : Cmd) (hp : c.path.length ≤ 1099511627776) : lim Tryz.prog cfg 61 [.ptr i 0, cmdD c] h =
    some (if thereB es c.path = true then (repD { err := 3 }, h) else if thereB es (parentP c.path) = false then (repD { err := 2 }, h) else (repD { version := 1 }, h.set j (dirM (aset c.path (c.value, 1) es)))) := by
  have h1 := there_lim H c.path
  have h2 := there_lim H (parentP c.path)
  have h3 := parent_lim (h := h) c.path hp
  have h4 : setKey [2] (.sc (.string (mkB c.path))) (entV (c.value, 1)) (amap entK entV es) = some (amap entK entV (aset c.path (c.value, 1) es)) := set_amap eqK_str c.path (c.value, 1) es
  cases e1 : thereB es c.path with
  | true =>
    refine lim_fun fun61 rfl (by simp) rfl ?_
    delta cd61
    simp -implicitDefEqProofs -dsimp only [go_sem, h1, e1]
  | false =>
    cases e2 : thereB es (parentP c.path) with
    | false =>
      refine lim_fun fun61 rfl (by simp) rfl ?_
      delta cd61
      simp -implicitDefEqProofs -dsimp only [go_sem, h1, e1, h2, e2, h3]
    | true =>
      refine lim_fun fun61 rfl (by simp) rfl ?_
      delta cd61
      simp -implicitDefEqProofs -dsimp only [go_sem, h1, e1, h2, e2, h3, H.obj, H.map, h4]
      rfl
theorem remove_lim {i j n m : Nat} {es : Dir} (H : At h i j es) (O : DirOK n m es) (hn : n ≤ 1048576) (c : Cmd) : lim Tryz.prog cfg 88 [.ptr i 0, cmdD c] h =
    some (if childs es c.path ≠ [] then (repD { err := 4 }, h) else (repD {}, h.set j (dirM (adel c.path es)))) := by
  have h1 := names_lim7 O hn H.d H.m c.path
  have h4 : delKey [2] (.sc (.string (mkB c.path))) (amap entK entV es) = some (amap entK entV (adel c.path es)) := del_amap eqK_str c.path es
  by_cases e2 : childs es c.path = []
  · rw [if_neg (by simp [e2])]
    refine lim_fun fun88 rfl (by simp) rfl ?_
    delta cd88
    rw [e2] at h1
    simp -implicitDefEqProofs -dsimp only [go_sem, h1, H.obj, H.map, h4]
    rfl
  · rw [if_pos e2]
    refine lim_fun fun88 rfl (by simp) rfl ?_
    delta cd88
    have h5 : (0 : Int) < ((childs es c.path).length : Int) := by have := List.length_pos_iff.2 e2; omega
    simp -implicitDefEqProofs -dsimp only [go_sem, h1, h5]
theorem set_lim {i j n m : Nat} {es : Dir} (H : At h i j es) (O : DirOK n m es) (hm : m ≤ 4611686018427387904) (c : Cmd) : lim Tryz.prog cfg 89 [.ptr i 0, cmdD c] h =
    some (repD (setR es c).1, h.set j (dirM (setR es c).2)) := by
  have h4 : setKey [2] (.sc (.string (mkB c.path))) (entV (c.value, (curP es c.path).2 + 1)) (amap entK entV es) = some (amap entK entV (aset c.path (c.value, (curP es c.path).2 + 1) es)) := set_amap eqK_str c.path _ es
  refine lim_fun fun89 rfl (by simp) rfl ?_
  delta cd89
  cases hg : aget c.path es with
  | none =>
    have hc : curP es c.path = ([], 0) := by simp [curP, hg]
    have h4 := set_amap (V := entV) eqK_str c.path (c.value, 1) es
    simp -implicitDefEqProofs -dsimp only [go_sem, H.obj, H.map, find_dir, hg, Option.map_none, Option.getD_none, h4]
    simp [setR, hc]
    rfl
  | some v =>
    have hc : curP es c.path = v := by simp [curP, hg]
    rw [hc] at h4
    have hv := O.version (c.path, v) (aget_mem hg)
    have hw : (IntKind.i64).wrap (v.2 + 1) = v.2 + 1 := wrap64 (by simp only at hv; omega) (by simp only at hv; omega)
    simp -implicitDefEqProofs -dsimp only [go_sem, H.obj, H.map, find_dir, hg, Option.map_some, Option.getD_some, hw, h4]
    simp [setR, hc]
    rfl
theorem get_lim {i j : Nat} {es : Dir} (H : At h i j es) (c : Cmd) : lim Tryz.prog cfg 90 [.ptr i 0, cmdD c] h =
    some (repD { value := (curP es c.path).1, version := (curP es c.path).2 }, h) := by
  refine lim_fun fun90 rfl (by simp) rfl ?_
  delta cd90
  cases hg : aget c.path es with
  | none =>
    have hc : curP es c.path = ([], 0) := by simp [curP, hg]
    simp -implicitDefEqProofs -dsimp only [go_sem, H.obj, H.map, find_dir, hg, Option.map_none, Option.getD_none]
    rw [hc]; rfl
  | some v =>
    have hc : curP es c.path = v := by simp [curP, hg]
    simp -implicitDefEqProofs -dsimp only [go_sem, H.obj, H.map, find_dir, hg, Option.map_some, Option.getD_some]
    rw [hc]; rfl
theorem list_lim {i j n m : Nat} {es : Dir} (H : At h i j es) (O : DirOK n m es) (hn : n ≤ 1048576) (c : Cmd) : lim Tryz.prog cfg 91 [.ptr i 0, cmdD c] h =
    some (repD { names := childs es c.path }, h) := by
  have h1 := names_lim7 O hn H.d H.m c.path
  refine lim_fun fun91 rfl (by simp) rfl ?_
  delta cd91
  simp -implicitDefEqProofs -dsimp only [go_sem, h1]
theorem cas_lim {i j n m : Nat} {es : Dir} (H : At h i j es) (O : DirOK n m es) (hm : m ≤ 4611686018427387904) (c : Cmd) : lim Tryz.prog cfg 92 [.ptr i 0, cmdD c] h =
    some (if (curP es c.path).2 ≠ c.version then (repD { err := 5, version := (curP es c.path).2 }, h) else (repD (setR es c).1, h.set j (dirM (setR es c).2))) := by
  have hs := set_lim H O hm c
  cases hg : aget c.path es with
  | none =>
    have hc : curP es c.path = ([], 0) := by simp [curP, hg]
    rw [hc]
    by_cases e : (0 : Int) = c.version
    · rw [if_neg (by simp [e])]
      refine lim_fun fun92 rfl (by simp) rfl ?_
      delta cd92
      simp -implicitDefEqProofs -dsimp only [go_sem, H.obj, H.map, find_dir, hg, Option.map_none, Option.getD_none, hs, e]
    · rw [if_pos (by simp [e])]
      refine lim_fun fun92 rfl (by simp) rfl ?_
      delta cd92
      simp -implicitDefEqProofs -dsimp only [go_sem, H.obj, H.map, find_dir, hg, Option.map_none, Option.getD_none, hs, e]
      rfl
  | some v =>
    have hc : curP es c.path = v := by simp [curP, hg]
    rw [hc]
    by_cases e : v.2 = c.version
    · rw [if_neg (by simp [e])]
      refine lim_fun fun92 rfl (by simp) rfl ?_
      delta cd92
      simp -implicitDefEqProofs -dsimp only [go_sem, H.obj, H.map, find_dir, hg, Option.map_some, Option.getD_some, hs, e]
    · rw [if_pos (by simp [e])]
      refine lim_fun fun92 rfl (by simp) rfl ?_
      delta cd92
      simp -implicitDefEqProofs -dsimp only [go_sem, H.obj, H.map, find_dir, hg, Option.map_some, Option.getD_some, hs, e]
      rfl
/-- The functions of operations. -/
def opsM : List (Int × FuncId) := [(2, 88), (3, 89), (4, 90), (5, 91), (6, 92)]
abbrev fnV (k : FuncId) : DV := .fn (.func k) [] []
theorem ops_lim : lim Tryz.prog cfg 58 [] h = some (.mp h.length, h ++ [.map (amap vi fnV opsM)]) := by
  refine lim_fun fun58 rfl (by simp) rfl ?_
  delta cd58
  have hm : ∀ (es : List (DV × DV)) (N : List (DV × DV) → Prop), MapP (h ++ [.map es]) h.length N = N es := fun es N => by simp [MapP]
  have hset : ∀ es es' : List (DV × DV), (h ++ [DObj.map es]).set h.length (.map es') = h ++ [.map es'] := fun es es' => by simp
  simp -implicitDefEqProofs -dsimp only [go_sem, hm, hset]
  show (h ++ [DObj.map (amap vi fnV opsM)]) = h ++ [DObj.map (amap vi fnV opsM)]
  rfl
theorem right_lim (c : Cmd) (hp : c.path.length ≤ 1099511627776) : lim Tryz.prog cfg 59 [cmdD c] h = some (vb (rightB c), h) := by
  refine lim_funp fun59 rfl (by simp) rfl rfl ?_
  delta cd59
  have h1 := valid_lim (h := []) c.path hp
  obtain ⟨cl, sq, op, path, value, ver, a, b⟩ := c
  simp only at h1
  cases hv : (parse path).isSome with
  | false =>
    rw [hv] at h1
    by_cases o1 : op = 1
    · subst o1; simp -implicitDefEqProofs -dsimp only [go_sem, h1]; simp [rightB, hv]
    by_cases o2 : op = 2
    · subst o2; simp -implicitDefEqProofs -dsimp only [go_sem, h1]; simp [rightB, hv]
    by_cases o3 : op = 3
    · subst o3; simp -implicitDefEqProofs -dsimp only [go_sem, h1]; simp [rightB, hv]
    by_cases o6 : op = 6
    · subst o6; simp -implicitDefEqProofs -dsimp only [go_sem, h1]; simp [rightB, hv]
    simp -implicitDefEqProofs -dsimp only [go_sem, h1, o1, o2, o3, o6]; simp [rightB, hv]
  | true =>
    rw [hv] at h1
    have e2 : (decide (value.length ≤ 64)) = decide ((value.length : Int) ≤ 64) := by rw [decide_eq_decide]; omega
    cases hl : decide ((value.length : Int) ≤ 64) with
    | false =>
      have hl' := of_decide_eq_false hl
      by_cases o1 : op = 1
      · subst o1; simp -implicitDefEqProofs -dsimp only [go_sem, h1, hl']; simp [rightB, hv, e2, hl]
      by_cases o3 : op = 3
      · subst o3; simp -implicitDefEqProofs -dsimp only [go_sem, h1, hl']; simp [rightB, hv, e2, hl]
      by_cases o6 : op = 6
      · subst o6; simp -implicitDefEqProofs -dsimp only [go_sem, h1, hl']; simp [rightB, hv, e2, hl]
      by_cases hr : path = [47]
      · subst hr
        by_cases o2 : op = 2
        · subst o2; simp -implicitDefEqProofs -dsimp only [go_sem, h1, hl']; simp [rightB, hv, e2, hl]
        simp -implicitDefEqProofs -dsimp only [go_sem, h1, o1, o2, o3, o6]; simp [rightB, hv, o1, o2, o3, o6]
      · by_cases o2 : op = 2
        · subst o2; simp -implicitDefEqProofs -dsimp only [go_sem, h1, hl', hr]; simp [rightB, hv, e2, hl, hr]
        simp -implicitDefEqProofs -dsimp only [go_sem, h1, o1, o2, o3, o6]; simp [rightB, hv, o1, o2, o3, o6]
    | true =>
      have hl' := of_decide_eq_true hl
      by_cases hr : path = [47]
      · subst hr
        by_cases o1 : op = 1
        · subst o1; simp -implicitDefEqProofs -dsimp only [go_sem, h1, hl']; simp [rightB, hv, e2, hl]
        by_cases o2 : op = 2
        · subst o2; simp -implicitDefEqProofs -dsimp only [go_sem, h1, hl']; simp [rightB, hv, e2, hl]
        by_cases o3 : op = 3
        · subst o3; simp -implicitDefEqProofs -dsimp only [go_sem, h1, hl']; simp [rightB, hv, e2, hl]
        by_cases o6 : op = 6
        · subst o6; simp -implicitDefEqProofs -dsimp only [go_sem, h1, hl']; simp [rightB, hv, e2, hl]
        simp -implicitDefEqProofs -dsimp only [go_sem, h1, o1, o2, o3, o6]; simp [rightB, hv, o1, o2, o3, o6]
      · by_cases o1 : op = 1
        · subst o1; simp -implicitDefEqProofs -dsimp only [go_sem, h1, hl', hr]; simp [rightB, hv, e2, hl, hr]
        by_cases o2 : op = 2
        · subst o2; simp -implicitDefEqProofs -dsimp only [go_sem, h1, hl', hr]; simp [rightB, hv, e2, hl, hr]
        by_cases o3 : op = 3
        · subst o3; simp -implicitDefEqProofs -dsimp only [go_sem, h1, hl', hr]; simp [rightB, hv, e2, hl, hr]
        by_cases o6 : op = 6
        · subst o6; simp -implicitDefEqProofs -dsimp only [go_sem, h1, hl', hr]; simp [rightB, hv, e2, hl, hr]
        simp -implicitDefEqProofs -dsimp only [go_sem, h1, o1, o2, o3, o6]; simp [rightB, hv, o1, o2, o3, o6]
end Go.DS

/-
  Walks: (*dir.Dir).Apply.
-/
namespace Go.DS
open Go Go.Proofs
set_option maxRecDepth 100000
set_option linter.unusedVariables false
set_option linter.unusedSimpArgs false
variable {h : DHeap}
/-- Of a heap's objects none speaks of what is not there. -/
def HB (h : DHeap) : Prop := h.all (belowO h.length) = true
theorem below_dir (n : Nat) (es : Dir) : belowO n (dirM es) = true := by
  simp only [belowO, amap, List.all_map, List.all_eq_true]
  intro e he
  rfl
theorem HB.set (B : HB h) (j : Nat) (es : Dir) : HB (h.set j (dirM es)) := by
  unfold HB at *
  rw [List.length_set]
  rw [List.all_eq_true] at *
  intro o ho
  rcases List.mem_or_eq_of_mem_set ho with h1 | h1
  · exact B o h1
  · rw [h1]; exact below_dir _ es
theorem below_ts (n : Nat) : ∀ l : List Str, below.alls n (ts l) = true
  | [] => rfl
  | s :: l => by
    have := below_ts n l
    simp only [ts] at this
    simp only [ts, List.map_cons, below.alls, below.all, below, this, Bool.and_self]
theorem below_rep (n : Nat) (r : Rep) : below n (repD r) = true := by
  simp only [below, below.all, below_ts, Bool.and_self]
theorem set_same {j : Nat} {o : DObj} (hj : h[j]? = some o) : h.set j o = h := by
  apply List.ext_getElem?
  intro k
  rw [List.getElem?_set]
  split
  · rename_i e; subst e
    split
    · exact hj.symm
    · rename_i hl; rw [List.getElem?_eq_none (by omega)] at hj; cases hj
  · rfl
theorem find_ops (op : Int) : findD [0] (vi op) (amap vi fnV opsM) = some ((aget op opsM).map fnV) := find_amap (eqK_int .i64) op opsM
theorem create_lim2 {i j : Nat} {es : Dir} (H : At h i j es) (c : Cmd) (hp : c.path.length ≤ 1099511627776) : lim Tryz.prog cfg 61 [.ptr i 0, cmdD c] h = some (repD (createP es c).1, h.set j (dirM (createP es c).2)) := by
  rw [create_lim H c hp]
  unfold createP
  split
  · rw [set_same H.m]
  · split
    · rw [set_same H.m]
    · rfl
theorem remove_lim2 {i j n m : Nat} {es : Dir} (H : At h i j es) (O : DirOK n m es) (hn : n ≤ 1048576) (c : Cmd) : lim Tryz.prog cfg 88 [.ptr i 0, cmdD c] h = some (repD (removeP es c).1, h.set j (dirM (removeP es c).2)) := by
  rw [remove_lim H O hn c]
  unfold removeP
  split
  · rw [set_same H.m]
  · rfl
theorem cas_lim2 {i j n m : Nat} {es : Dir} (H : At h i j es) (O : DirOK n m es) (hm : m ≤ 4611686018427387904) (c : Cmd) : lim Tryz.prog cfg 92 [.ptr i 0, cmdD c] h = some (repD (casP es c).1, h.set j (dirM (casP es c).2)) := by
  rw [cas_lim H O hm c]
  unfold casP
  split
  · rw [set_same H.m]
  · rfl
theorem apply_lim {i j n m : Nat} {es : Dir} (H : At h i j es) (O : DirOK n m es) (B : HB h) (hn : n ≤ 1048576) (hm : m ≤ 4611686018427387904) (c : Cmd) (hp : c.path.length ≤ 1099511627776) :
    lim Tryz.prog cfg 34 [.ptr i 0, cmdD c] h = some (repD (applyP es c).1, h.set j (dirM (applyP es c).2)) := by
  have fin : ∀ (r : Rep) (es' : Dir), (below h.length (repD r) && ((h.set j (dirM es') ++ [DObj.map (amap vi fnV opsM)]).take h.length).all (belowO h.length)) = true ∧ h.length ≤ (h.set j (dirM es') ++ [DObj.map (amap vi fnV opsM)]).length ∧ (h.set j (dirM es') ++ [DObj.map (amap vi fnV opsM)]).take h.length = h.set j (dirM es') := fun r es' => by
    have e1 : (h.set j (dirM es') ++ [DObj.map (amap vi fnV opsM)]).take h.length = h.set j (dirM es') := by
      rw [List.take_append_of_le_length (by simp), List.take_of_length_le (by simp)]
    have e2 := HB.set B j es'
    unfold HB at e2
    rw [List.length_set] at e2
    rw [e1, below_rep, Bool.true_and]
    exact ⟨e2, by simp, rfl⟩
  have fin0 := fun r => fin r es
  rw [set_same H.m] at fin0
  have H2 := H.app [DObj.map (amap vi fnV opsM)]
  have hset : ∀ X, (h ++ [DObj.map (amap vi fnV opsM)]).set j X = h.set j X ++ [DObj.map (amap vi fnV opsM)] := fun X => by
    rw [List.set_append_left _ _ H.lt.2]
  have hmp : ∀ N : List (DV × DV) → Prop, MapP (h ++ [DObj.map (amap vi fnV opsM)]) h.length N = N (amap vi fnV opsM) := fun N => by simp [MapP]
  have q1 := ops_lim (h := h)
  have q2 := right_lim (h := h ++ [DObj.map (amap vi fnV opsM)]) c hp
  have q3 := there_lim H2 c.path
  have q4 := create_lim2 H2 c hp
  have q5 := remove_lim2 H2 O hn c
  have q6 := set_lim H2 O hm c
  have q7 := get_lim H2 c
  have q8 := list_lim H2 O hn c
  have q9 := cas_lim2 H2 O hm c
  rw [hset] at q4 q5 q6 q9
  generalize hM : DObj.map (amap vi fnV opsM) = M at *
  refine lim_fung fun34 rfl rfl (by simp) rfl ?_
  delta cd34
  obtain ⟨cl, sq, op, path, value, ver, a, b⟩ := c
  simp only at q2 q3 q4 q5 q6 q7 q8 q9
  by_cases o1 : op = 1
  · subst o1
    have hf : aget (1 : Int) opsM = none := rfl
    cases hr : rightB ⟨cl, sq, 1, path, value, ver, a, b⟩ with
    | false =>
      rw [hr] at q2
      have ha : applyP es ⟨cl, sq, 1, path, value, ver, a, b⟩ = ({ err := 1 }, es) := by simp [applyP, hr]
      rw [ha, set_same H.m]
      simp -implicitDefEqProofs -dsimp only [go_sem, q1, hmp, find_ops, hf, Option.map_none, Option.getD_none, q2]
      first | exact fin0 { err := 1 } | exact fin0 { err := 2 } | exact ⟨rfl, fin0 _⟩
    | true =>
      rw [hr] at q2
      have ha : applyP es ⟨cl, sq, 1, path, value, ver, a, b⟩ = createP es ⟨cl, sq, 1, path, value, ver, a, b⟩ := by simp [applyP, hr]
      rw [ha]
      generalize createP es ⟨cl, sq, 1, path, value, ver, a, b⟩ = z at *
      simp -implicitDefEqProofs -dsimp only [go_sem, q1, hmp, find_ops, hf, Option.map_none, Option.getD_none, q2, q4]
      exact fin _ _
  by_cases o2 : op = 2
  · subst o2
    have hf : aget (2 : Int) opsM = some 88 := rfl
    cases hr : rightB ⟨cl, sq, 2, path, value, ver, a, b⟩ with
    | false =>
      rw [hr] at q2
      have ha : applyP es ⟨cl, sq, 2, path, value, ver, a, b⟩ = ({ err := 1 }, es) := by simp [applyP, hr]
      rw [ha, set_same H.m]
      simp -implicitDefEqProofs -dsimp only [go_sem, q1, hmp, find_ops, hf, Option.map_some, Option.getD_some, q2]
      first | exact fin0 { err := 1 } | exact fin0 { err := 2 } | exact ⟨rfl, fin0 _⟩
    | true =>
      rw [hr] at q2
      cases ht : thereB es path with
      | false =>
        rw [ht] at q3
        have ha : applyP es ⟨cl, sq, 2, path, value, ver, a, b⟩ = ({ err := 2 }, es) := by simp [applyP, hr, ht]
        rw [ha, set_same H.m]
        simp -implicitDefEqProofs -dsimp only [go_sem, q1, hmp, find_ops, hf, Option.map_some, Option.getD_some, q2, q3]
        first | exact fin0 { err := 1 } | exact fin0 { err := 2 } | exact ⟨rfl, fin0 _⟩
      | true =>
        rw [ht] at q3
        have ha : applyP es ⟨cl, sq, 2, path, value, ver, a, b⟩ = removeP es ⟨cl, sq, 2, path, value, ver, a, b⟩ := by simp [applyP, hr, ht]
        rw [ha]
        generalize removeP es ⟨cl, sq, 2, path, value, ver, a, b⟩ = z at *
        simp -implicitDefEqProofs -dsimp only [go_sem, q1, hmp, find_ops, hf, Option.map_some, Option.getD_some, q2, q3, q5]
        exact fin _ _
  by_cases o3 : op = 3
  · subst o3
    have hf : aget (3 : Int) opsM = some 89 := rfl
    cases hr : rightB ⟨cl, sq, 3, path, value, ver, a, b⟩ with
    | false =>
      rw [hr] at q2
      have ha : applyP es ⟨cl, sq, 3, path, value, ver, a, b⟩ = ({ err := 1 }, es) := by simp [applyP, hr]
      rw [ha, set_same H.m]
      simp -implicitDefEqProofs -dsimp only [go_sem, q1, hmp, find_ops, hf, Option.map_some, Option.getD_some, q2]
      first | exact fin0 { err := 1 } | exact fin0 { err := 2 } | exact ⟨rfl, fin0 _⟩
    | true =>
      rw [hr] at q2
      cases ht : thereB es path with
      | false =>
        rw [ht] at q3
        have ha : applyP es ⟨cl, sq, 3, path, value, ver, a, b⟩ = ({ err := 2 }, es) := by simp [applyP, hr, ht]
        rw [ha, set_same H.m]
        simp -implicitDefEqProofs -dsimp only [go_sem, q1, hmp, find_ops, hf, Option.map_some, Option.getD_some, q2, q3]
        first | exact fin0 { err := 1 } | exact fin0 { err := 2 } | exact ⟨rfl, fin0 _⟩
      | true =>
        rw [ht] at q3
        have ha : applyP es ⟨cl, sq, 3, path, value, ver, a, b⟩ = setR es ⟨cl, sq, 3, path, value, ver, a, b⟩ := by simp [applyP, hr, ht]
        rw [ha]
        generalize setR es ⟨cl, sq, 3, path, value, ver, a, b⟩ = z at *
        simp -implicitDefEqProofs -dsimp only [go_sem, q1, hmp, find_ops, hf, Option.map_some, Option.getD_some, q2, q3, q6]
        exact fin _ _
  by_cases o4 : op = 4
  · subst o4
    have hf : aget (4 : Int) opsM = some 90 := rfl
    cases hr : rightB ⟨cl, sq, 4, path, value, ver, a, b⟩ with
    | false =>
      rw [hr] at q2
      have ha : applyP es ⟨cl, sq, 4, path, value, ver, a, b⟩ = ({ err := 1 }, es) := by simp [applyP, hr]
      rw [ha, set_same H.m]
      simp -implicitDefEqProofs -dsimp only [go_sem, q1, hmp, find_ops, hf, Option.map_some, Option.getD_some, q2]
      first | exact fin0 { err := 1 } | exact fin0 { err := 2 } | exact ⟨rfl, fin0 _⟩
    | true =>
      rw [hr] at q2
      cases ht : thereB es path with
      | false =>
        rw [ht] at q3
        have ha : applyP es ⟨cl, sq, 4, path, value, ver, a, b⟩ = ({ err := 2 }, es) := by simp [applyP, hr, ht]
        rw [ha, set_same H.m]
        simp -implicitDefEqProofs -dsimp only [go_sem, q1, hmp, find_ops, hf, Option.map_some, Option.getD_some, q2, q3]
        first | exact fin0 { err := 1 } | exact fin0 { err := 2 } | exact ⟨rfl, fin0 _⟩
      | true =>
        rw [ht] at q3
        have ha : applyP es ⟨cl, sq, 4, path, value, ver, a, b⟩ = (({ value := (curP es path).1, version := (curP es path).2 } : Rep), es) := by simp [applyP, hr, ht]
        rw [ha]
        rw [set_same H.m]
        simp -implicitDefEqProofs -dsimp only [go_sem, q1, hmp, find_ops, hf, Option.map_some, Option.getD_some, q2, q3, q7]
        exact fin0 { value := (curP es path).1, version := (curP es path).2 }
  by_cases o5 : op = 5
  · subst o5
    have hf : aget (5 : Int) opsM = some 91 := rfl
    cases hr : rightB ⟨cl, sq, 5, path, value, ver, a, b⟩ with
    | false =>
      rw [hr] at q2
      have ha : applyP es ⟨cl, sq, 5, path, value, ver, a, b⟩ = ({ err := 1 }, es) := by simp [applyP, hr]
      rw [ha, set_same H.m]
      simp -implicitDefEqProofs -dsimp only [go_sem, q1, hmp, find_ops, hf, Option.map_some, Option.getD_some, q2]
      first | exact fin0 { err := 1 } | exact fin0 { err := 2 } | exact ⟨rfl, fin0 _⟩
    | true =>
      rw [hr] at q2
      cases ht : thereB es path with
      | false =>
        rw [ht] at q3
        have ha : applyP es ⟨cl, sq, 5, path, value, ver, a, b⟩ = ({ err := 2 }, es) := by simp [applyP, hr, ht]
        rw [ha, set_same H.m]
        simp -implicitDefEqProofs -dsimp only [go_sem, q1, hmp, find_ops, hf, Option.map_some, Option.getD_some, q2, q3]
        first | exact fin0 { err := 1 } | exact fin0 { err := 2 } | exact ⟨rfl, fin0 _⟩
      | true =>
        rw [ht] at q3
        have ha : applyP es ⟨cl, sq, 5, path, value, ver, a, b⟩ = (({ names := childs es path } : Rep), es) := by simp [applyP, hr, ht]
        rw [ha]
        rw [set_same H.m]
        simp -implicitDefEqProofs -dsimp only [go_sem, q1, hmp, find_ops, hf, Option.map_some, Option.getD_some, q2, q3, q8]
        exact fin0 { names := childs es path }
  by_cases o6 : op = 6
  · subst o6
    have hf : aget (6 : Int) opsM = some 92 := rfl
    cases hr : rightB ⟨cl, sq, 6, path, value, ver, a, b⟩ with
    | false =>
      rw [hr] at q2
      have ha : applyP es ⟨cl, sq, 6, path, value, ver, a, b⟩ = ({ err := 1 }, es) := by simp [applyP, hr]
      rw [ha, set_same H.m]
      simp -implicitDefEqProofs -dsimp only [go_sem, q1, hmp, find_ops, hf, Option.map_some, Option.getD_some, q2]
      first | exact fin0 { err := 1 } | exact fin0 { err := 2 } | exact ⟨rfl, fin0 _⟩
    | true =>
      rw [hr] at q2
      cases ht : thereB es path with
      | false =>
        rw [ht] at q3
        have ha : applyP es ⟨cl, sq, 6, path, value, ver, a, b⟩ = ({ err := 2 }, es) := by simp [applyP, hr, ht]
        rw [ha, set_same H.m]
        simp -implicitDefEqProofs -dsimp only [go_sem, q1, hmp, find_ops, hf, Option.map_some, Option.getD_some, q2, q3]
        first | exact fin0 { err := 1 } | exact fin0 { err := 2 } | exact ⟨rfl, fin0 _⟩
      | true =>
        rw [ht] at q3
        have ha : applyP es ⟨cl, sq, 6, path, value, ver, a, b⟩ = casP es ⟨cl, sq, 6, path, value, ver, a, b⟩ := by simp [applyP, hr, ht]
        rw [ha]
        generalize casP es ⟨cl, sq, 6, path, value, ver, a, b⟩ = z at *
        simp -implicitDefEqProofs -dsimp only [go_sem, q1, hmp, find_ops, hf, Option.map_some, Option.getD_some, q2, q3, q9]
        exact fin _ _
  have hf : aget op opsM = none := by simp [opsM, aget, o2, o3, o4, o5, o6]
  have ha : applyP es ⟨cl, sq, op, path, value, ver, a, b⟩ = ({ err := 1 }, es) := by
    unfold applyP
    rw [if_pos (.inl (by simp only; omega))]
  rw [ha, set_same H.m]
  simp -implicitDefEqProofs -dsimp only [go_sem, q1, hmp, find_ops, hf, Option.map_none, Option.getD_none, o1]
  first | exact fin0 { err := 1 } | exact fin0 { err := 2 } | exact ⟨rfl, fin0 _⟩
end Go.DS

/-
  Walks: (*dir.Dir).Entries, syndicref07.Row, Same.
-/
namespace Go.DS
open Go Go.Proofs
set_option maxRecDepth 100000
set_option linter.unusedVariables false
set_option linter.unusedSimpArgs false
def cd39 : Cd := .seq (R [c0 2 (.tk (.c (kn 3)))] [0]) (.seq (R [c0 3 (.tk (.c (kn 3)))] [0, 3]) (.seq (.seq (R [c0 6 (.mv (.s 0)), c0 7 (.mov 0 (.s 6)), c0 8 (.mov 0 (.s 7)), c0 9 (.ld false 1 (.s 8)), c0 10 (.call none (.c (kf 69)) [(.s 9)]), c0 11 (.call none (.c (kf 68)) [(.s 10), (.c (kf 70))]), c0 12 (.len 1 (.s 11)), c0 13 (.mv (.c (ki .i64 0)))] [0, 3, 11, 12, 13]) (.block 0 (LP [0, 3, 11, 12, 13] (.seq (R [c0 14 (.bin .lss .any (.s 13) (.s 12))] [0, 3, 11, 12, 13, 14]) (.seq (.ite (.s 14) (.skip) (.exit 0)) (.seq (.block 1 (.seq (R [c0 15 (.ixp 1 (.s 11) (.s 13)), c0 16 (.ldx true false 1 (.s 15)), c0 5 (.tk (.s 16))] [0, 3, 5, 11, 12, 13]) (RD [cd (some 17) false none (.tk (.s 3)) false false [3], cd (some 18) false none (.mv (.s 5)) false false [5], cd (some 19) false none (.mv (.s 0)) false false [0], cd (some 20) false none (.mov 0 (.s 19)) false false [19], cd (some 21) false none (.mov 0 (.s 20)) false false [20], cd (some 22) false none (.ld false 1 (.s 21)) false false [21], cd (some 23) false none (.mv (.s 5)) false false [5], cd (some 24) false none (.lkp [2] false 1 (.agg [ks [], ki .i64 0]) false (.s 22) (.s 23)) false false [22, 23], cd (some 25) false none (.fld 0 false 1 (.s 24)) false false [24], cd (some 26) false none (.mv (.s 0)) false false [0], cd (some 27) false none (.mov 0 (.s 26)) false false [26], cd (some 28) false none (.mov 0 (.s 27)) false false [27], cd (some 29) false none (.ld false 1 (.s 28)) false false [28], cd (some 30) false none (.mv (.s 5)) false false [5], cd (some 31) false none (.lkp [2] false 1 (.agg [ks [], ki .i64 0]) false (.s 29) (.s 30)) false false [29, 30], cd (some 32) false none (.fld 1 false 1 (.s 31)) false false [31], cd (some 33) false none (.bld [ks [], ks [], ki .i64 0] [(0, 1, (.s 18)), (1, 1, (.s 25)), (2, 1, (.s 32))]) false false [18, 25, 32], cd (some 34) false none (.bsl 3 [(.s 33)]) false false [33], cd (some 35) false none (.app 3 44 false (.s 17) (.s 34)) false false [17, 34], cd (some 3) false none (.tk (.s 35)) false false [35]] [0, 3, 11, 12, 13] []))) (R [c0 36 (.bin .add .any (.s 13) (.c (ki .i64 1))), c0 13 (.mv (.s 36))] [0, 3, 11, 12, 13]))))))) (.seq (R [c0 37 (.tk (.s 3)), c0 2 (.tk (.s 37))] [2]) (.ret))))
theorem fun39 : Fun Tryz.prog cfg 39 38 cd39 [.s 2] := ⟨rfl, Tryz.f39, _, Tryz.func39, rfl, rfl, by kernel_rfl, by kernel_rfl⟩
@[go_sem] theorem ok39 : calleeOK Tryz.prog 39 = true := by kernel_rfl
@[go_sem] theorem ex39 : (cfg.ext 39).isSome = false := rfl
def cd21 : Cd := .seq (R [cb 4 (.tk (.c (kb false)))] [0, 1]) (.seq (.seq (R [c0 6 (.mv (.s 0)), c0 7 (.len 1 (.s 6)), c0 8 (.mv (.s 1)), c0 9 (.len 1 (.s 8)), cb 10 (.bin .neq .any (.s 7) (.s 9))] [0, 1, 10]) (.ite (.s 10) (.seq (R [cb 4 (.tk (.c (kb false)))] [4]) (.ret)) (.skip))) (.seq (.seq (R [c0 5 (.tk (.c (ki .i64 0)))] [0, 1, 5]) (.block 0 (LP [0, 1, 5] (.seq (.seq (R [c0 11 (.mv (.s 5)), c0 12 (.mv (.s 0)), c0 13 (.len 1 (.s 12)), cb 14 (.bin .lss .any (.s 11) (.s 13))] [0, 1, 5, 14]) (.ite (.s 14) (.skip) (.exit 0))) (.seq (.block 1 (.seq (RD [cd (some 17) false none (.mv (.s 0)) false false [0], cd (some 18) false none (.mv (.s 5)) false false [5], cd (some 19) false none (.ixp 3 (.s 17) (.s 18)) false false [17, 18], cd (some 20) false none (.ld true 3 (.s 19)) false false [19], cd (some 21) false none (.mv (.s 1)) false false [1], cd (some 22) false none (.mv (.s 5)) false false [5], cd (some 23) false none (.ixp 3 (.s 21) (.s 22)) false false [21, 22], cd (some 24) false none (.ld true 3 (.s 23)) false false [23], cd (some 25) true none (.bin .neq (.flat [2, 2, 0]) (.s 20) (.s 24)) false false [20, 24]] [0, 1, 5, 25] []) (.ite (.s 25) (.seq (R [cb 4 (.tk (.c (kb false)))] [4]) (.ret)) (.skip)))) (R [c0 15 (.mv (.s 5)), c0 16 (.bin .add .any (.s 15) (.c (ki .i64 1))), c0 5 (.tk (.s 16))] [0, 1, 5])))))) (.seq (R [cb 4 (.tk (.c (kb true)))] [4]) (.ret))))
theorem fun21 : Fun Tryz.prog cfg 21 26 cd21 [.s 4] := ⟨rfl, Tryz.f21, _, Tryz.func21, rfl, rfl, by kernel_rfl, by kernel_rfl⟩
@[go_sem] theorem ok21 : calleeOK Tryz.prog 21 = true := by kernel_rfl
@[go_sem] theorem ex21 : (cfg.ext 21).isSome = false := rfl
def cd16 : Cd := .seq (R [c0 2 (.new false (.s 0)), c0 3 (.new false (.s 1)), cb 4 (.tk (.c (kb false)))] [2, 3]) (.seq (.seq (R (c0 6 (.mov 0 (.s 2)) :: c0 7 (.ld false 1 (.s 6)) :: c0 8 (.mov 0 (.s 3)) :: c0 9 (.ld false 1 (.s 8)) :: cb 10 (.bin .neq .any (.s 7) (.s 9)) :: cb 11 (.mv (.s 10)) :: cg 12 11 false (.mov 1 (.s 2)) :: cg 13 11 false (.ld false 1 (.s 12)) :: cg 14 11 false (.mov 1 (.s 3)) :: cg 15 11 false (.ld false 1 (.s 14)) :: ch 16 11 false (.bin .neq .any (.s 13) (.s 15)) :: cb 17 (.pick (.s 11) (.c (kb true)) (.s 16)) :: cb 18 (.mv (.s 17)) :: cg 19 18 false (.mov 2 (.s 2)) :: cg 20 18 false (.ld false 1 (.s 19)) :: cg 21 18 false (.mov 2 (.s 3)) :: cg 22 18 false (.ld false 1 (.s 21)) :: ch 23 18 false (.bin .neq .any (.s 20) (.s 22)) :: cb 24 (.pick (.s 18) (.c (kb true)) (.s 23)) :: cb 25 (.mv (.s 24)) :: cg 26 25 false (.mov 3 (.s 2)) :: cg 27 25 false (.ld false 1 (.s 26)) :: cg 28 25 false (.len 1 (.s 27)) :: cg 29 25 false (.mov 3 (.s 3)) :: cg 30 25 false (.ld false 1 (.s 29)) :: cg 31 25 false (.len 1 (.s 30)) :: ch 32 25 false (.bin .neq .any (.s 28) (.s 31)) :: cb 33 (.pick (.s 25) (.c (kb true)) (.s 32)) :: []) [2, 3, 33]) (.ite (.s 33) (.seq (R [cb 4 (.tk (.c (kb false)))] [2, 3, 4]) (.ret)) (.skip))) (.seq (.seq (R [c0 5 (.tk (.c (ki .i64 0)))] [2, 3, 5]) (.block 0 (LP [2, 3, 5] (.seq (.seq (R [c0 34 (.mv (.s 5)), c0 35 (.mov 3 (.s 2)), c0 36 (.ld false 1 (.s 35)), c0 37 (.len 1 (.s 36)), cb 38 (.bin .lss .any (.s 34) (.s 37))] [2, 3, 5, 38]) (.ite (.s 38) (.skip) (.exit 0))) (.seq (.block 1 (.seq (RD [cd (some 41) false none (.mov 3 (.s 2)) false false [2], cd (some 42) false none (.ld false 1 (.s 41)) false false [41], cd (some 43) false none (.mv (.s 5)) false false [5], cd (some 44) false none (.ixp 1 (.s 42) (.s 43)) false false [42, 43], cd (some 45) false none (.ld false 1 (.s 44)) false false [44], cd (some 46) false none (.mov 3 (.s 3)) false false [3], cd (some 47) false none (.ld false 1 (.s 46)) false false [46], cd (some 48) false none (.mv (.s 5)) false false [5], cd (some 49) false none (.ixp 1 (.s 47) (.s 48)) false false [47, 48], cd (some 50) false none (.ld false 1 (.s 49)) false false [49], cd (some 51) true none (.bin .neq .any (.s 45) (.s 50)) false false [45, 50]] [2, 3, 5, 51] []) (.ite (.s 51) (.seq (R [cb 4 (.tk (.c (kb false)))] [2, 3, 4]) (.ret)) (.skip)))) (R [c0 39 (.mv (.s 5)), c0 40 (.bin .add .any (.s 39) (.c (ki .i64 1))), c0 5 (.tk (.s 40))] [2, 3, 5])))))) (.seq (R [cb 4 (.tk (.c (kb true)))] [2, 3, 4]) (.ret))))
theorem fun16 : Fun Tryz.prog cfg 16 52 cd16 [.s 4] := ⟨rfl, Tryz.f16, _, Tryz.func16, rfl, rfl, by kernel_rfl, by kernel_rfl⟩
@[go_sem] theorem ok16 : calleeOK Tryz.prog 16 = true := by kernel_rfl
@[go_sem] theorem ex16 : (cfg.ext 16).isSome = false := rfl
variable {h : DHeap}
abbrev Ent := Str × (Str × Int)
def eds (l : List Ent) : List (List DV) := l.map fun e => [vs e.1, vs e.2.1, vi e.2.2]
@[go_sem] theorem eds_len (l : List Ent) : (eds l).length = l.length := by simp [eds]
@[go_sem] theorem eds_app (l m : List Ent) : eds l ++ eds m = eds (l ++ m) := by simp [eds]
@[go_sem] theorem eds_snoc (l : List Ent) (p v : Str) (n : Int) : eds l ++ [[.sc (.string (mkB p)), .sc (.string (mkB v)), .sc (.int .i64 n)]] = eds (l ++ [(p, (v, n))]) := by simp [eds]
@[go_sem high] theorem idxP_eds (l : List Ent) (i : Int) (N : List DV → Prop) : IdxP (eds l) i N = IdxP l i fun e => N [vs e.1, vs e.2.1, vi e.2.2] := idxP_map
theorem free_eds : ∀ l : List Ent, heapFree.alls (eds l) = true
  | [] => rfl
  | s :: l => by
    have := free_eds l
    simp only [eds] at this
    simp only [eds, List.map_cons, heapFree.alls, heapFree.all, heapFree, this, Bool.and_self]
theorem below_eds (n : Nat) : ∀ l : List Ent, below.alls n (eds l) = true
  | [] => rfl
  | s :: l => by
    have := below_eds n l
    simp only [eds] at this
    simp only [eds, List.map_cons, below.alls, below.all, below, this, Bool.and_self]
theorem sortC_len (cf : Str → Str → Int) (l : List Str) : (sortC cf l).length = l.length := by simp [sortC, List.length_mergeSort]
theorem sortC_mem {cf : Str → Str → Int} {l : List Str} {x : Str} : x ∈ sortC cf l ↔ x ∈ l := (List.mergeSort_perm l _).mem_iff
theorem entries_lim {i j n m : Nat} {es : Dir} (H : At h i j es) (O : DirOK n m es) (B : HB h) (hn : n ≤ 1048576) :
    lim Tryz.prog cfg 39 [.ptr i 0] h = some (.list true 3 (eds (entriesP es)), h) := by
  have H2 := H.app [DObj.cells [.mp j]]
  have q1 := keysOf_lim (h := h) j
  have hi3 : (h ++ [DObj.cells [.mp j]])[h.length]? = some (.cells [.mp j]) := by simp
  have q2 := sorted_lim (h := h ++ [DObj.cells [.mp j]]) O hn hi3 H2.m
  have hgc : (below h.length (.list true 3 (eds (entriesP es))) && ((h ++ [DObj.cells [.mp j]]).take h.length).all (belowO h.length)) = true ∧ h.length ≤ (h ++ [DObj.cells [.mp j]]).length ∧ (h ++ [DObj.cells [.mp j]]).take h.length = h := by
    have e1 : (h ++ [DObj.cells [.mp j]]).take h.length = h := by simp
    have e2 := B
    unfold HB at e2
    refine ⟨?_, by simp, e1⟩
    rw [e1, e2]
    simp only [below, below_eds, Bool.and_self]
  refine lim_fung fun39 rfl rfl (by simp) rfl ?_
  delta cd39
  simp -implicitDefEqProofs -dsimp only [go_sem, H.obj, q1, q2]
  have hS : (sortC ordP (keys es)).length ≤ 1048576 := by rw [sortC_len, keys_len]; have := O.len; omega
  refine wp_for (σ := Nat) (fun k => [(0, .ptr i 0), (3, .list true 3 (eds ((entriesP es).take k))), (11, vts true (sortC ordP (keys es))), (12, vi ((sortC ordP (keys es)).length : Nat)), (13, vi (k : Nat))]) (fun _ => h ++ [DObj.cells [.mp j]]) (fun k => (sortC ordP (keys es)).length - k) (fun k => k ≤ (sortC ordP (keys es)).length) 0 (Nat.zero_le _) rfl rfl ?_
  rintro k hk N hN
  by_cases k4 : k < (sortC ordP (keys es)).length
  · have k5 : (k : Int) < ((sortC ordP (keys es)).length : Int) := by omega
    have hmem : (sortC ordP (keys es))[k] ∈ keys es := sortC_mem.1 (List.getElem_mem k4)
    obtain ⟨v, hv⟩ := Option.isSome_iff_exists.1 (aget_iff.2 hmem)
    have hL : (entriesP es).length = (sortC ordP (keys es)).length := by simp [entriesP]
    have hmx : (((entriesP es).take k).length + 1) * 44 ≤ maxLenD := by rw [List.length_take]; unfold maxLenD; omega
    have hnx : (entriesP es).take (k + 1) = (entriesP es).take k ++ [((sortC ordP (keys es))[k], v)] := by
      rw [List.take_succ_eq_append_getElem (by omega)]
      simp [entriesP, hv]
    simp -implicitDefEqProofs -dsimp only [go_sem, k4, k5, H2.obj, H2.map, find_dir, hv, Option.map_some, Option.getD_some, hmx]
    refine hN (k + 1) _ (by omega) (by omega) ?_
    simp -implicitDefEqProofs -dsimp only [go_sem, wrap_succ (show k < 9223372036854775807 by omega), hnx]
  · have k5 : ¬ (k : Int) < ((sortC ordP (keys es)).length : Int) := by omega
    have hL : (entriesP es).take k = entriesP es := List.take_of_length_le (by simp [entriesP]; omega)
    simp -implicitDefEqProofs -dsimp only [go_sem, k5, hL]
    exact hgc
@[go_sem] theorem eqs_ent (a b : Ent) : eqs [2, 2, 0] [.sc (.string (mkB a.1)), .sc (.string (mkB a.2.1)), .sc (.int .i64 a.2.2)] [.sc (.string (mkB b.1)), .sc (.string (mkB b.2.1)), .sc (.int .i64 b.2.2)] = some (decide (a = b)) := by
  obtain ⟨a1, a2, a3⟩ := a
  obtain ⟨b1, b2, b3⟩ := b
  have e : eqs [2, 2, 0] [.sc (.string (mkB a1)), .sc (.string (mkB a2)), .sc (.int .i64 a3)] [.sc (.string (mkB b1)), .sc (.string (mkB b2)), .sc (.int .i64 b3)] = some ((mkB a1 == mkB b1) && ((mkB a2 == mkB b2) && (decide (a3 = b3) && true))) := by
    simp [eqs, scs, eqV, eq1]
    rfl
  rw [e, mkB_beq, mkB_beq]
  simp [Prod.ext_iff]
theorem row_lim (o1 o2 : Bool) (l m : List Ent) (hl : l.length ≤ 1048576) : lim Tryz.prog cfg 21 [.list o1 3 (eds l), .list o2 3 (eds m)] h = some (vb (decide (l = m)), h) := by
  refine lim_funp fun21 rfl (by simp) (by simp [heapFree, free_eds]) rfl ?_
  delta cd21
  simp -implicitDefEqProofs -dsimp only [go_sem]
  refine ⟨fun h1 => ?_, fun h1 => ?_⟩
  · have hlen : l.length = m.length := by omega
    refine wp_for (σ := Nat) (fun k => [(0, .list false 3 (eds l)), (1, .list false 3 (eds m)), (5, vi (k : Nat))]) (fun _ => []) (fun k => l.length - k) (fun k => k ≤ l.length ∧ l.take k = m.take k) 0 (by simp) rfl rfl ?_
    rintro k ⟨hk, hj⟩ N hN
    simp -implicitDefEqProofs -dsimp only [go_sem]
    refine ⟨fun h2 => ⟨by omega, by omega, fun h3 => ?_, fun h3 => ?_⟩, fun h2 => ?_⟩
    · refine hN (k + 1) _ (by omega) ⟨by omega, ?_⟩ (by simp -implicitDefEqProofs -dsimp only [go_sem, wrap_succ (show k < 9223372036854775807 by omega)])
      rw [List.take_succ_eq_append_getElem (by omega), List.take_succ_eq_append_getElem (by omega), hj, h3]
    · have : l ≠ m := fun e => by subst e; exact h3 rfl
      simp [this]
    · have : k = l.length := by omega
      subst this
      rw [List.take_length, hlen, List.take_length] at hj
      simp [hj]
  · have : l ≠ m := fun e => by subst e; exact h1 rfl
    simp [this]
def sameB (a b : Rep) : Bool := decide (a = b)
theorem same_lim (o1 o2 : Bool) (a b : Rep) (hl : a.names.length ≤ 1048576) : lim Tryz.prog cfg 16 [repD a, repD b] h = some (vb (decide (a = b)), h) := by
  refine lim_funp fun16 rfl (by simp) (by simp [heapFree, heapFree.all, free_ts]) rfl ?_
  delta cd16
  obtain ⟨ae, av, an, al⟩ := a
  obtain ⟨be, bv, bn, bl⟩ := b
  simp only at hl
  by_cases e1 : ae = be
  · by_cases e2 : av = bv
    · by_cases e3 : an = bn
      · subst e1 e2 e3
        simp -implicitDefEqProofs -dsimp only [go_sem]
        refine ⟨fun h1 => ?_, fun h1 => ?_⟩
        · have hlen : al.length = bl.length := by omega
          refine wp_for (σ := Nat) (fun k => [(2, .box [vi ae, vs av, vi an, .list false 1 (ts al)]), (3, .box [vi ae, vs av, vi an, .list false 1 (ts bl)]), (5, vi (k : Nat))]) (fun _ => []) (fun k => al.length - k) (fun k => k ≤ al.length ∧ al.take k = bl.take k) 0 (by simp) rfl rfl ?_
          rintro k ⟨hk, hj⟩ N hN
          simp -implicitDefEqProofs -dsimp only [go_sem]
          refine ⟨fun h2 => ⟨by omega, by omega, fun h3 => ?_, fun h3 => ?_⟩, fun h2 => ?_⟩
          · refine hN (k + 1) _ (by omega) ⟨by omega, ?_⟩ (by simp -implicitDefEqProofs -dsimp only [go_sem, wrap_succ (show k < 9223372036854775807 by omega)])
            rw [List.take_succ_eq_append_getElem (by omega), List.take_succ_eq_append_getElem (by omega), hj, h3]
          · have : al ≠ bl := fun e => by subst e; exact h3 rfl
            simp [this]
          · have : k = al.length := by omega
            subst this
            rw [List.take_length, hlen, List.take_length] at hj
            simp [hj]
        · have : al ≠ bl := fun e => by subst e; exact h1 rfl
          simp [this]
      · subst e1 e2
        simp -implicitDefEqProofs -dsimp only [go_sem, e3]
        simp [e3]
    · subst e1
      simp -implicitDefEqProofs -dsimp only [go_sem, e2]
      simp [e2]
  · simp -implicitDefEqProofs -dsimp only [go_sem, e1]
    simp [e1]
end Go.DS

/-
  Walks: the functions of touch.
-/
namespace Go.DS
open Go Go.Proofs
set_option maxRecDepth 100000
set_option linter.unusedVariables false
set_option linter.unusedSimpArgs false
@[go_sem] theorem ok138 : calleeOK Tryz.prog 138 = true := by kernel_rfl
@[go_sem] theorem ex138 : (cfg.ext 138).isSome = true := rfl
def cd105 : Cd := .seq (R [c0 4 (.tk (.c (kn 2)))] [0, 1]) (.seq (R [c0 5 (.tk (.c (kn 2)))] [0, 1, 5]) (.seq (.seq (R [c0 8 (.mv (.s 1)), c0 9 (.len 1 (.s 8)), c0 10 (.mv (.c (ki .i64 0)))] [0, 5, 8, 9, 10]) (.block 0 (LP [0, 5, 8, 9, 10] (.seq (R [c0 11 (.bin .lss .any (.s 10) (.s 9))] [0, 5, 8, 9, 10, 11]) (.seq (.ite (.s 11) (.skip) (.exit 0)) (.seq (.block 1 (.seq (R [c0 12 (.ixp 1 (.s 8) (.s 10)), c0 13 (.ldx true false 1 (.s 12)), c0 7 (.tk (.s 13))] [0, 5, 7, 8, 9, 10]) (R [c0 14 (.tk (.s 5)), c0 15 (.mv (.s 0)), c0 16 (.mv (.s 7)), c0 17 (.bld [ks [], ki .u8 0] [(0, 1, (.s 15)), (1, 1, (.s 16))]), c0 18 (.bsl 2 [(.s 17)]), c0 19 (.app 2 27 false (.s 14) (.s 18)), c0 5 (.tk (.s 19))] [0, 5, 8, 9, 10]))) (R [c0 20 (.bin .add .any (.s 10) (.c (ki .i64 1))), c0 10 (.mv (.s 20))] [0, 5, 8, 9, 10]))))))) (.seq (R [c0 21 (.tk (.s 5)), c0 4 (.tk (.s 21))] [4]) (.ret))))
theorem fun105 : Fun Tryz.prog cfg 105 22 cd105 [.s 4] := ⟨rfl, Tryz.f105, _, Tryz.func105, rfl, rfl, by kernel_rfl, by kernel_rfl⟩
@[go_sem] theorem ok105 : calleeOK Tryz.prog 105 = true := by kernel_rfl
@[go_sem] theorem ex105 : (cfg.ext 105).isSome = false := rfl
def cd106 : Cd := .seq (R [c0 2 (.tk (.c (kn 2)))] [0]) (.seq (R [c0 3 (.tk (.c (ki .i64 0)))] [0, 3]) (.seq (.seq (R [c0 9 (.mv (.s 0)), c0 10 (.len 1 (.s 9)), c0 11 (.mv (.c (ki .i64 0)))] [0, 3, 9, 10, 11]) (.block 0 (LP [0, 3, 9, 10, 11] (.seq (R [c0 12 (.bin .lss .any (.s 11) (.s 10))] [0, 3, 9, 10, 11, 12]) (.seq (.ite (.s 12) (.skip) (.exit 0)) (.seq (.block 1 (.seq (R [c0 13 (.ixp 1 (.s 9) (.s 11)), c0 14 (.ldx true false 1 (.s 13)), c0 5 (.tk (.s 14))] [0, 3, 5, 9, 10, 11]) (.seq (R [c0 15 (.mv (.s 3)), c0 16 (.mv (.s 5)), c0 17 (.len 1 (.s 16)), c0 18 (.bin .add .any (.s 15) (.s 17)), c0 3 (.tk (.s 18))] [0, 3, 9, 10, 11]) (.seq (R [c0 19 (.mv (.s 3)), cb 20 (.bin .lss .any (.s 19) (.c (ki .i64 0)))] [0, 3, 9, 10, 11, 20]) (.ite (.s 20) (R [c0 21 (.mki 9 (.c (ks [108, 101, 110, 32, 111, 117, 116, 32, 111, 102, 32, 114, 97, 110, 103, 101]))), cn (.bad)] [0, 3, 9, 10, 11]) (.skip)))))) (R [c0 22 (.bin .add .any (.s 11) (.c (ki .i64 1))), c0 11 (.mv (.s 22))] [0, 3, 9, 10, 11]))))))) (.seq (R [c0 23 (.mv (.s 3)), c0 24 (.call (some true) (.c (kf 138)) [(.c (.sc (.slice none 0 0))), (.s 23)]), c0 6 (.tk (.s 24))] [0, 6]) (.seq (.seq (R [c0 25 (.mv (.s 0)), c0 26 (.len 1 (.s 25)), c0 27 (.mv (.c (ki .i64 0)))] [6, 25, 26, 27]) (.block 2 (LP [6, 25, 26, 27] (.seq (R [c0 28 (.bin .lss .any (.s 27) (.s 26))] [6, 25, 26, 27, 28]) (.seq (.ite (.s 28) (.skip) (.exit 2)) (.seq (.block 3 (.seq (R [c0 29 (.ixp 1 (.s 25) (.s 27)), c0 30 (.ldx true false 1 (.s 29)), c0 8 (.tk (.s 30))] [6, 8, 25, 26, 27]) (R [c0 31 (.tk (.s 6)), c0 32 (.mv (.s 8)), c0 33 (.app 2 27 false (.s 31) (.s 32)), c0 6 (.tk (.s 33))] [6, 25, 26, 27]))) (R [c0 34 (.bin .add .any (.s 27) (.c (ki .i64 1))), c0 27 (.mv (.s 34))] [6, 25, 26, 27]))))))) (.seq (R [c0 35 (.tk (.s 6)), c0 2 (.tk (.s 35))] [2]) (.ret))))))
theorem fun106 : Fun Tryz.prog cfg 106 36 cd106 [.s 2] := ⟨rfl, Tryz.f106, _, Tryz.func106, rfl, rfl, by kernel_rfl, by kernel_rfl⟩
@[go_sem] theorem ok106 : calleeOK Tryz.prog 106 = true := by kernel_rfl
@[go_sem] theorem ex106 : (cfg.ext 106).isSome = false := rfl
def cd107 : Cd := .seq (R [cb 4 (.tk (.c (kb false)))] [0, 1]) (.seq (R [c0 5 (.mv (.s 0)), c0 6 (.mv (.s 1)), c0 7 (.call none (.c (kf 139)) [(.s 5), (.s 6)]), cb 8 (.bin .geq .any (.s 7) (.c (ki .i64 0))), cb 4 (.tk (.s 8))] [4]) (.ret))
theorem fun107 : Fun Tryz.prog cfg 107 9 cd107 [.s 4] := ⟨rfl, Tryz.f107, _, Tryz.func107, rfl, rfl, by kernel_rfl, by kernel_rfl⟩
@[go_sem] theorem ok107 : calleeOK Tryz.prog 107 = true := by kernel_rfl
@[go_sem] theorem ex107 : (cfg.ext 107).isSome = false := rfl
def cd139 : Cd := .seq (R [c0 4 (.tk (.c (ki .i64 0)))] [0, 1]) (.seq (.seq (R [c0 6 (.mv (.s 0)), c0 7 (.len 1 (.s 6)), c0 8 (.mv (.c (ki .i64 0)))] [0, 1, 7, 8]) (.block 0 (LP [0, 1, 7, 8] (.seq (R [c0 9 (.bin .lss .any (.s 8) (.s 7))] [0, 1, 7, 8, 9]) (.seq (.ite (.s 9) (.skip) (.exit 0)) (.seq (.block 1 (.seq (R [c0 10 (.tk (.s 8)), c0 5 (.tk (.s 10))] [0, 1, 5, 7, 8]) (.seq (R [c0 11 (.mv (.s 1)), c0 12 (.mv (.s 0)), c0 13 (.mv (.s 5)), c0 14 (.ixp 2 (.s 12) (.s 13)), c0 15 (.ld true 2 (.s 14)), cb 16 (.call none (.s 11) [(.s 15)])] [0, 1, 5, 7, 8, 16]) (.ite (.s 16) (.seq (R [c0 17 (.tk (.s 5)), c0 4 (.tk (.s 17))] [4]) (.ret)) (.skip))))) (R [c0 18 (.bin .add .any (.s 8) (.c (ki .i64 1))), c0 8 (.mv (.s 18))] [0, 1, 7, 8]))))))) (.seq (R [c0 4 (.tk (.c (ki .i64 (-1))))] [4]) (.ret)))
theorem fun139 : Fun Tryz.prog cfg 139 19 cd139 [.s 4] := ⟨rfl, Tryz.f139, _, Tryz.func139, rfl, rfl, by kernel_rfl, by kernel_rfl⟩
@[go_sem] theorem ok139 : calleeOK Tryz.prog 139 = true := by kernel_rfl
@[go_sem] theorem ex139 : (cfg.ext 139).isSome = false := rfl
def cd108 : Cd := .seq (R [c0 2 (.new false (.s 0)), cb 3 (.tk (.c (kb false)))] [1, 2]) (.seq (R [c0 4 (.ld false 1 (.s 1)), c0 5 (.ld true 2 (.s 2)), cb 6 (.lkp [2, 0] true 2 (kb false) false (.s 4) (.s 5)), cb 3 (.tk (.s 6))] [2, 3]) (.ret))
theorem fun108 : Fun Tryz.prog cfg 108 7 cd108 [.s 3] := ⟨rfl, Tryz.f108, _, Tryz.func108, rfl, rfl, by kernel_rfl, by kernel_rfl⟩
@[go_sem] theorem ok108 : calleeOK Tryz.prog 108 = true := by kernel_rfl
@[go_sem] theorem ex108 : (cfg.ext 108).isSome = false := rfl
def cd75 : Cd := .seq (R [c0 2 (.new false (.s 0)), c0 3 (.new false (.s 1)), cb 4 (.tk (.c (kb false)))] [2, 3, 5, 7]) (.seq (R [c0 8 (.mkm), c0 5 (.new false (.c (.sc (.map none)))), cn (.st 1 (.s 5) (.s 8))] [2, 3, 5, 7]) (.seq (.seq (R [c0 9 (.mov 0 (.s 3)), c0 10 (.ld false 1 (.s 9)), c0 11 (.mov 1 (.s 3)), c0 12 (.ld false 1 (.s 11)), c0 13 (.bsl 1 [(.s 10), (.s 12)]), c0 14 (.call none (.c (kf 106)) [(.s 13)]), c0 15 (.len 1 (.s 14)), c0 16 (.mv (.c (ki .i64 0)))] [2, 3, 5, 7, 14, 15, 16]) (.block 0 (LP [2, 3, 5, 7, 14, 15, 16] (.seq (R [c0 17 (.bin .lss .any (.s 16) (.s 15))] [2, 3, 5, 7, 14, 15, 16, 17]) (.seq (.ite (.s 17) (.skip) (.exit 0)) (.seq (.block 1 (.seq (R [c0 18 (.ixp 2 (.s 14) (.s 16)), c0 19 (.ldx false true 2 (.s 18)), c0 7 (.new false (.c (.agg [ks [], ki .u8 0]))), cn (.st 2 (.s 7) (.s 19))] [2, 3, 5, 7, 14, 15, 16]) (R [c0 20 (.ld false 1 (.s 5)), c0 21 (.ld true 2 (.s 7)), cn (.mup [2, 0] true 2 (.s 20) (.s 21) (.c (kb true)))] [2, 3, 5, 7, 14, 15, 16]))) (R [c0 22 (.bin .add .any (.s 16) (.c (ki .i64 1))), c0 16 (.mv (.s 22))] [2, 3, 5, 7, 14, 15, 16]))))))) (.seq (R [c0 23 (.mov 1 (.s 2)), c0 24 (.ld false 1 (.s 23)), c0 25 (.mkf (.func 108) 0 [(.s 5)]), cb 26 (.call none (.c (kf 107)) [(.s 24), (.s 25)]), cb 4 (.tk (.s 26))] [2, 3, 4, 5, 7]) (.ret))))
theorem fun75 : Fun Tryz.prog cfg 75 27 cd75 [.s 4] := ⟨rfl, Tryz.f75, _, Tryz.func75, rfl, rfl, by kernel_rfl, by kernel_rfl⟩
@[go_sem] theorem ok75 : calleeOK Tryz.prog 75 = true := by kernel_rfl
@[go_sem] theorem ex75 : (cfg.ext 75).isSome = false := rfl
def cd74 : Cd := .seq (R [c0 1 (.new false (.s 0)), c0 2 (.new false (.c (.agg [kn 2, kn 2])))] [1, 2]) (.seq (R [c0 6 (.mov 3 (.s 1)), c0 7 (.ldx true false 1 (.s 6)), c0 3 (.tk (.s 7))] [1, 2, 3]) (.seq (.seq (R [c0 8 (.mv (.s 3)), cb 9 (.call none (.c (kf 93)) [(.s 8)]), cb 10 (.un .not (.s 9))] [1, 2, 3, 10]) (.ite (.s 10) (.seq (R [c0 11 (.bld [kz 2, kz 2] []), cn (.st 2 (.s 2) (.s 11))] [1, 2]) (.ret)) (.skip))) (.seq (.seq (R [c0 12 (.mov 2 (.s 1)), c0 13 (.ld false 1 (.s 12))] [1, 2, 3, 13]) (.block 0 (.seq (R [cb 15 (.bin .eql .any (.s 13) (.c (ki .i64 4))), cb 14 (.tk (.s 15))] [1, 2, 3, 13, 14]) (.ite (.s 14) (.seq (R [c0 16 (.mv (.s 3)), c0 17 (.bsl 1 [(.c (ki .u8 101)), (.c (ki .u8 118))]), c0 18 (.call none (.c (kf 105)) [(.s 16), (.s 17)]), c0 19 (.bld [kz 2, kz 2] [(0, 1, (.s 18))]), cn (.st 2 (.s 2) (.s 19))] [1, 2]) (.ret)) (.seq (R [cb 21 (.bin .eql .any (.s 13) (.c (ki .i64 5))), cb 20 (.tk (.s 21))] [1, 2, 3, 20]) (.ite (.s 20) (.seq (R [c0 22 (.mv (.s 3)), c0 23 (.bsl 1 [(.c (ki .u8 101)), (.c (ki .u8 107))]), c0 24 (.call none (.c (kf 105)) [(.s 22), (.s 23)]), c0 25 (.bld [kz 2, kz 2] [(0, 1, (.s 24))]), cn (.st 2 (.s 2) (.s 25))] [1, 2]) (.ret)) (.skip))))))) (.seq (R [c0 26 (.mv (.s 3)), c0 27 (.call none (.c (kf 67)) [(.s 26)]), c0 4 (.tk (.s 27))] [1, 2, 3, 4]) (.seq (R [c0 28 (.mv (.s 4)), cb 29 (.bin .eql .any (.s 28) (.c (ks []))), cb 5 (.tk (.s 29))] [1, 2, 3, 4, 5]) (.seq (.block 1 (.seq (R [c0 31 (.mov 2 (.s 1)), c0 32 (.ld false 1 (.s 31)), cb 33 (.bin .eql .any (.s 32) (.c (ki .i64 1))), cb 34 (.mv (.s 33)), ch 35 34 true (.mv (.s 5)), cb 36 (.pick (.s 34) (.s 35) (.c (kb false))), cb 30 (.tk (.s 36))] [1, 2, 3, 4, 5, 30]) (.ite (.s 30) (.seq (R [c0 37 (.mv (.s 3)), c0 38 (.bsl 1 [(.c (ki .u8 101))]), c0 39 (.call none (.c (kf 105)) [(.s 37), (.s 38)]), c0 40 (.bld [kz 2, kz 2] [(0, 1, (.s 39))]), cn (.st 2 (.s 2) (.s 40))] [1, 2]) (.ret)) (.seq (R [cb 42 (.tk (.s 5)), cb 41 (.tk (.s 42))] [1, 2, 3, 4, 41]) (.ite (.s 41) (.skip) (.seq (R [c0 44 (.mov 2 (.s 1)), c0 45 (.ld false 1 (.s 44)), cb 46 (.bin .eql .any (.s 45) (.c (ki .i64 1))), cb 43 (.tk (.s 46))] [1, 2, 3, 4, 43]) (.ite (.s 43) (.seq (R [c0 47 (.mv (.s 4)), c0 48 (.bsl 1 [(.c (ki .u8 101))]), c0 49 (.call none (.c (kf 105)) [(.s 47), (.s 48)]), c0 50 (.mv (.s 3)), c0 51 (.bsl 1 [(.c (ki .u8 101))]), c0 52 (.call none (.c (kf 105)) [(.s 50), (.s 51)]), c0 53 (.app 2 27 false (.s 49) (.s 52)), c0 54 (.mv (.s 3)), c0 55 (.bsl 1 [(.c (ki .u8 101)), (.c (ki .u8 118))]), c0 56 (.call none (.c (kf 105)) [(.s 54), (.s 55)]), c0 57 (.mv (.s 4)), c0 58 (.bsl 1 [(.c (ki .u8 107))]), c0 59 (.call none (.c (kf 105)) [(.s 57), (.s 58)]), c0 60 (.app 2 27 false (.s 56) (.s 59)), c0 61 (.bld [kz 2, kz 2] [(0, 1, (.s 53)), (1, 1, (.s 60))]), cn (.st 2 (.s 2) (.s 61))] [1, 2]) (.ret)) (.seq (R [c0 63 (.mov 2 (.s 1)), c0 64 (.ld false 1 (.s 63)), cb 65 (.bin .eql .any (.s 64) (.c (ki .i64 2))), cb 62 (.tk (.s 65))] [1, 2, 3, 4, 62]) (.ite (.s 62) (.seq (R [c0 66 (.mv (.s 3)), c0 67 (.bsl 1 [(.c (ki .u8 101)), (.c (ki .u8 107))]), c0 68 (.call none (.c (kf 105)) [(.s 66), (.s 67)]), c0 69 (.mv (.s 3)), c0 70 (.bsl 1 [(.c (ki .u8 101)), (.c (ki .u8 118))]), c0 71 (.call none (.c (kf 105)) [(.s 69), (.s 70)]), c0 72 (.mv (.s 4)), c0 73 (.bsl 1 [(.c (ki .u8 107))]), c0 74 (.call none (.c (kf 105)) [(.s 72), (.s 73)]), c0 75 (.app 2 27 false (.s 71) (.s 74)), c0 76 (.bld [kz 2, kz 2] [(0, 1, (.s 68)), (1, 1, (.s 75))]), cn (.st 2 (.s 2) (.s 76))] [1, 2]) (.ret)) (.seq (R [c0 78 (.mov 2 (.s 1)), c0 79 (.ld false 1 (.s 78)), cb 80 (.bin .eql .any (.s 79) (.c (ki .i64 3))), cb 77 (.tk (.s 80))] [1, 2, 3, 77]) (.ite (.s 77) (.seq (R [c0 81 (.mv (.s 3)), c0 82 (.bsl 1 [(.c (ki .u8 101))]), c0 83 (.call none (.c (kf 105)) [(.s 81), (.s 82)]), c0 84 (.mv (.s 3)), c0 85 (.bsl 1 [(.c (ki .u8 118))]), c0 86 (.call none (.c (kf 105)) [(.s 84), (.s 85)]), c0 87 (.bld [kz 2, kz 2] [(0, 1, (.s 83)), (1, 1, (.s 86))]), cn (.st 2 (.s 2) (.s 87))] [1, 2]) (.ret)) (.seq (R [c0 89 (.mov 2 (.s 1)), c0 90 (.ld false 1 (.s 89)), cb 91 (.bin .eql .any (.s 90) (.c (ki .i64 6))), cb 88 (.tk (.s 91))] [1, 2, 3, 88]) (.ite (.s 88) (.seq (R [c0 92 (.mv (.s 3)), c0 93 (.bsl 1 [(.c (ki .u8 101)), (.c (ki .u8 118))]), c0 94 (.call none (.c (kf 105)) [(.s 92), (.s 93)]), c0 95 (.mv (.s 3)), c0 96 (.bsl 1 [(.c (ki .u8 118))]), c0 97 (.call none (.c (kf 105)) [(.s 95), (.s 96)]), c0 98 (.bld [kz 2, kz 2] [(0, 1, (.s 94)), (1, 1, (.s 97))]), cn (.st 2 (.s 2) (.s 98))] [1, 2]) (.ret)) (.skip)))))))))))))) (.seq (R [c0 99 (.bld [kz 2, kz 2] []), cn (.st 2 (.s 2) (.s 99))] [1, 2]) (.ret))))))))
theorem fun74 : Fun Tryz.prog cfg 74 100 cd74 [.b 2 true 2] := ⟨rfl, Tryz.f74, _, Tryz.func74, rfl, rfl, by kernel_rfl, by kernel_rfl⟩
@[go_sem] theorem ok74 : calleeOK Tryz.prog 74 = true := by kernel_rfl
@[go_sem] theorem ex74 : (cfg.ext 74).isSome = false := rfl
def cd42 : Cd := .seq (R [c0 2 (.new false (.s 0)), c0 3 (.new false (.s 1)), cb 4 (.tk (.c (kb false)))] [2, 3, 5, 6]) (.seq (RD [cd (some 7) false none (.ld true 8 (.s 2)) false false [2], cd (some 8) false none (.call none (.c (kf 74)) [(.s 7)]) false false [7], cd (some 9) false none (.ld true 8 (.s 3)) false false [3], cd (some 10) false none (.call none (.c (kf 74)) [(.s 9)]) false false [9], cd (some 5) false none (.new false (.c (.agg [kn 2, kn 2]))) true false [], cd (some 6) false none (.new false (.c (.agg [kn 2, kn 2]))) true false [], cd none false none (.st 2 (.s 5) (.s 8)) false false [5, 8], cd none false none (.st 2 (.s 6) (.s 10)) false false [6, 10]] [2, 3, 5, 6] []) (.seq (R [c0 11 (.ld true 2 (.s 5)), c0 12 (.ld true 2 (.s 6)), cb 13 (.call none (.c (kf 75)) [(.s 11), (.s 12)]), cb 14 (.mv (.s 13)), cg 15 14 false (.ld true 2 (.s 6)), cg 16 14 false (.ld true 2 (.s 5)), ch 17 14 false (.call none (.c (kf 75)) [(.s 15), (.s 16)]), cb 18 (.pick (.s 14) (.c (kb true)) (.s 17)), cb 4 (.tk (.s 18))] [2, 3, 4, 5, 6]) (.ret)))
theorem fun42 : Fun Tryz.prog cfg 42 19 cd42 [.s 4] := ⟨rfl, Tryz.f42, _, Tryz.func42, rfl, rfl, by kernel_rfl, by kernel_rfl⟩
@[go_sem] theorem ok42 : calleeOK Tryz.prog 42 = true := by kernel_rfl
@[go_sem] theorem ex42 : (cfg.ext 42).isSome = false := rfl
def cd33 : Cd := .seq (R [c0 1 (.new false (.s 0)), cb 2 (.tk (.c (kb false)))] [1]) (.seq (R [c0 3 (.mov 2 (.s 1)), c0 4 (.ld false 1 (.s 3)), cb 5 (.bin .leq .any (.c (ki .i64 7)) (.s 4)), cb 6 (.mv (.s 5)), cg 7 6 true (.mov 2 (.s 1)), cg 8 6 true (.ld false 1 (.s 7)), ch 9 6 true (.bin .leq .any (.s 8) (.c (ki .i64 9))), cb 10 (.pick (.s 6) (.s 9) (.c (kb false))), cb 2 (.tk (.s 10))] [1, 2]) (.ret))
theorem fun33 : Fun Tryz.prog cfg 33 11 cd33 [.s 2] := ⟨rfl, Tryz.f33, _, Tryz.func33, rfl, rfl, by kernel_rfl, by kernel_rfl⟩
@[go_sem] theorem ok33 : calleeOK Tryz.prog 33 = true := by kernel_rfl
@[go_sem] theorem ex33 : (cfg.ext 33).isSome = false := rfl
def cd22 : Cd := .seq (R [c0 2 (.new false (.s 0)), c0 3 (.new false (.s 1)), cb 4 (.tk (.c (kb false)))] [2, 3]) (.seq (.block 0 (.seq (R [c0 6 (.mov 2 (.s 2)), c0 7 (.ld false 1 (.s 6)), cb 8 (.bin .eql .any (.s 7) (.c (ki .i64 0))), cb 9 (.mv (.s 8)), cg 10 9 false (.mov 2 (.s 3)), cg 11 9 false (.ld false 1 (.s 10)), ch 12 9 false (.bin .eql .any (.s 11) (.c (ki .i64 0))), cb 13 (.pick (.s 9) (.c (kb true)) (.s 12)), cb 5 (.tk (.s 13))] [2, 3, 5]) (.ite (.s 5) (.seq (R [cb 4 (.tk (.c (kb false)))] [2, 3, 4]) (.ret)) (.seq (R [c0 15 (.ld true 8 (.s 2)), cb 16 (.call none (.c (kf 33)) [(.s 15)]), cb 17 (.mv (.s 16)), cg 18 17 false (.ld true 8 (.s 3)), ch 19 17 false (.call none (.c (kf 33)) [(.s 18)]), cb 20 (.pick (.s 17) (.c (kb true)) (.s 19)), cb 21 (.mv (.s 20)), cg 22 21 false (.mov 0 (.s 2)), cg 23 21 false (.ld false 1 (.s 22)), cg 24 21 false (.mov 0 (.s 3)), cg 25 21 false (.ld false 1 (.s 24)), ch 26 21 false (.bin .eql .any (.s 23) (.s 25)), cb 27 (.pick (.s 21) (.c (kb true)) (.s 26)), cb 14 (.tk (.s 27))] [2, 3, 14]) (.ite (.s 14) (.seq (R [cb 4 (.tk (.c (kb true)))] [2, 3, 4]) (.ret)) (.skip)))))) (.seq (R [c0 28 (.ld true 8 (.s 2)), c0 29 (.ld true 8 (.s 3)), cb 30 (.call none (.c (kf 42)) [(.s 28), (.s 29)]), cb 4 (.tk (.s 30))] [2, 3, 4]) (.ret)))
theorem fun22 : Fun Tryz.prog cfg 22 31 cd22 [.s 4] := ⟨rfl, Tryz.f22, _, Tryz.func22, rfl, rfl, by kernel_rfl, by kernel_rfl⟩
@[go_sem] theorem ok22 : calleeOK Tryz.prog 22 = true := by kernel_rfl
@[go_sem] theorem ex22 : (cfg.ext 22).isSome = false := rfl
def cd11 : Cd := .seq (R [cb 2 (.tk (.c (kb false)))] [0]) (.seq (.seq (R [c0 3 (.tk (.c (ki .i64 0)))] [0, 3]) (.block 0 (LP [0, 3] (.seq (.seq (R [c0 4 (.mv (.s 3)), c0 5 (.mv (.s 0)), c0 6 (.len 1 (.s 5)), cb 7 (.bin .lss .any (.s 4) (.s 6)), cb 8 (.mv (.s 7)), cg 9 8 true (.mv (.s 3)), ch 10 8 true (.bin .leq .any (.s 9) (.c (ki .i64 60))), cb 11 (.pick (.s 8) (.s 10) (.c (kb false)))] [0, 3, 11]) (.ite (.s 11) (.skip) (.exit 0))) (.seq (.block 1 (.seq (R [c0 14 (.mv (.s 0)), c0 15 (.mv (.s 3)), c0 16 (.ixp 8 (.s 14) (.s 15)), c0 17 (.mov 3 (.s 16)), c0 18 (.ld false 1 (.s 17)), c0 19 (.len 0 (.s 18)), cb 20 (.bin .gtr .any (.s 19) (.c (ki .i64 300))), cb 21 (.mv (.s 20)), cg 22 21 false (.mv (.s 0)), cg 23 21 false (.mv (.s 3)), cg 24 21 false (.ixp 8 (.s 22) (.s 23)), cg 25 21 false (.mov 4 (.s 24)), cg 26 21 false (.ld false 1 (.s 25)), cg 27 21 false (.len 0 (.s 26)), ch 28 21 false (.bin .gtr .any (.s 27) (.c (ki .i64 300))), cb 29 (.pick (.s 21) (.c (kb true)) (.s 28))] [0, 3, 29]) (.ite (.s 29) (.seq (R [cb 2 (.tk (.c (kb true)))] [2]) (.ret)) (.skip)))) (R [c0 12 (.mv (.s 3)), c0 13 (.bin .add .any (.s 12) (.c (ki .i64 1))), c0 3 (.tk (.s 13))] [0, 3])))))) (.seq (R [c0 30 (.mv (.s 0)), c0 31 (.len 1 (.s 30)), cb 32 (.bin .gtr .any (.s 31) (.c (ki .i64 60))), cb 2 (.tk (.s 32))] [2]) (.ret)))
theorem fun11 : Fun Tryz.prog cfg 11 33 cd11 [.s 2] := ⟨rfl, Tryz.f11, _, Tryz.func11, rfl, rfl, by kernel_rfl, by kernel_rfl⟩
@[go_sem] theorem ok11 : calleeOK Tryz.prog 11 = true := by kernel_rfl
@[go_sem] theorem ex11 : (cfg.ext 11).isSome = false := rfl
variable {h : DHeap}
theorem tof_lim (own : Bool) (p : Str) (l : List UInt8) (hl : l.length ≤ 100) : lim Tryz.prog cfg 105 [vs p, .list own 1 (bys l)] h = some (.list true 2 (cls (ofP p l)), h) := by
  refine lim_funp fun105 rfl (by simp) (by simp [heapFree, free_bys]) (by simp [heapFree, free_cls]) ?_
  delta cd105
  simp -implicitDefEqProofs -dsimp only [go_sem]
  refine wp_for (σ := Nat) (fun k => [(0, vs p), (5, .list true 2 (cls (ofP p (l.take k)))), (8, .list false 1 (bys l)), (9, vi (l.length : Nat)), (10, vi (k : Nat))]) (fun _ => []) (fun k => l.length - k) (fun k => k ≤ l.length) 0 (by simp) rfl rfl ?_
  rintro k hk N hN
  have hlen : (ofP p (l.take k)).length = k := by simp [ofP]; omega
  by_cases hlt : k < l.length
  · have h1 : ((k : Int) < (l.length : Int)) := by omega
    have hm : (k + 1) * 27 ≤ maxLenD := by unfold maxLenD; omega
    simp -implicitDefEqProofs -dsimp only [go_sem, h1, hlen, hm]
    refine ⟨hlt, hN (k + 1) _ (by omega) (by omega) ?_⟩
    have e : cls (ofP p (l.take k)) ++ [[vs p, DV.sc (Value.int .u8 l[k].toNat)]] = cls (ofP p (l.take (k + 1))) := by
      rw [List.take_succ_eq_append_getElem hlt]; simp only [cls, ofP, List.map_append, List.map_cons, List.map_nil]
    simp -implicitDefEqProofs -dsimp only [go_sem, wrap_succ (show k < 9223372036854775807 by omega), e]
  · have h1 : ¬ ((k : Int) < (l.length : Int)) := by omega
    have : k = l.length := by omega
    subst this
    simp -implicitDefEqProofs -dsimp only [go_sem, h1, List.take_length]

/-- What lies in rows of rows. -/
def clss (ls : List (List Cel)) : List (List DV) := ls.map fun l => [.list false 2 (cls l)]
@[go_sem] theorem clss_len (l : List (List Cel)) : (clss l).length = l.length := by simp [clss]
@[go_sem high] theorem idxP_clss (l : List (List Cel)) (i : Int) (N : List DV → Prop) : IdxP (clss l) i N = IdxP l i fun c => N [.list false 2 (cls c)] := idxP_map
theorem free_clss : ∀ l : List (List Cel), heapFree.alls (clss l) = true
  | [] => rfl
  | s :: l => by
    have := free_clss l
    simp only [clss] at this
    simp only [clss, List.map_cons, heapFree.alls, heapFree.all, heapFree, this, free_cls, Bool.and_self]
theorem grow_lim (n : Nat) (hn : n ≤ 1048576) : lim Tryz.prog cfg 138 [.sc (.slice none 0 0), vi (n : Nat)] h = some (.list true 2 (cls []), h) := by
  refine lim_ext rfl ?_ rfl
  show (if (0 : Int) ≤ n ∧ (n : Int) ≤ 1048576 then some (DV.list true 2 [], h) else none) = _
  rw [if_pos (by omega)]; rfl
theorem flat_le {ls : List (List Cel)} {l : List Cel} (h : l ∈ ls) : l.length ≤ ls.flatten.length := by
  induction ls with
  | nil => cases h
  | cons a ls ih =>
    simp only [List.flatten_cons, List.length_append]
    rcases List.mem_cons.1 h with rfl | h
    · omega
    · have := ih h; omega
theorem flat_take (ls : List (List Cel)) (k : Nat) (hk : k < ls.length) : (ls.take (k + 1)).flatten = (ls.take k).flatten ++ ls[k] := by
  rw [List.take_succ_eq_append_getElem hk, List.flatten_append, List.flatten_cons, List.flatten_nil, List.append_nil]
theorem flat_take_le (ls : List (List Cel)) (k : Nat) : (ls.take k).flatten.length ≤ ls.flatten.length := by
  conv => rhs; rw [← List.take_append_drop k ls]
  rw [List.flatten_append, List.length_append]
  omega
theorem concat_lim (own : Bool) (ls : List (List Cel)) (hl : ls.length ≤ 1000) (hs : ls.flatten.length ≤ 1000000) : lim Tryz.prog cfg 106 [.list own 1 (clss ls)] h = some (.list true 2 (cls ls.flatten), h) := by
  refine lim_funp fun106 rfl (by simp) (by simp [heapFree, free_clss]) (by simp [heapFree, free_cls]) ?_
  delta cd106
  simp -implicitDefEqProofs -dsimp only [go_sem]
  refine wp_for (σ := Nat) (fun k => [(0, .list false 1 (clss ls)), (3, vi ((ls.take k).flatten.length : Nat)), (9, .list false 1 (clss ls)), (10, vi (ls.length : Nat)), (11, vi (k : Nat))]) (fun _ => []) (fun k => ls.length - k) (fun k => k ≤ ls.length) 0 (by simp) rfl rfl ?_
  rintro k hk N hN
  by_cases hlt : k < ls.length
  · have h1 : ((k : Int) < (ls.length : Int)) := by omega
    have h3 := flat_take ls k hlt
    have h4 := flat_take_le ls (k + 1)
    have h2 : IntKind.wrap .i64 (((ls.take k).flatten.length : Int) + (ls[k].length : Int)) = ((ls.take (k + 1)).flatten.length : Int) := by
      rw [h3] at h4 ⊢
      simp only [List.length_append] at h4 ⊢
      rw [wrap64 (by omega) (by omega)]; omega
    have h5 : ¬ (((ls.take (k + 1)).flatten.length : Int) < 0) := by omega
    simp -implicitDefEqProofs -dsimp only [go_sem, h1, hlt, h2, h5]
    refine hN (k + 1) _ (by omega) (by omega) ?_
    simp -implicitDefEqProofs -dsimp only [go_sem, wrap_succ (show k < 9223372036854775807 by omega)]
  · have h1 : ¬ ((k : Int) < (ls.length : Int)) := by omega
    have : k = ls.length := by omega
    subst this
    have hg := grow_lim (h := []) ls.flatten.length (by omega)
    simp -implicitDefEqProofs -dsimp only [go_sem, h1, List.take_length, hg]
    refine wp_for (σ := Nat) (fun k => [(6, .list true 2 (cls (ls.take k).flatten)), (25, .list false 1 (clss ls)), (26, vi (ls.length : Nat)), (27, vi (k : Nat))]) (fun _ => []) (fun k => ls.length - k) (fun k => k ≤ ls.length) 0 (by simp) rfl rfl ?_
    rintro k hk N hN
    by_cases hlt : k < ls.length
    · have h1 : ((k : Int) < (ls.length : Int)) := by omega
      have h3 := flat_take ls k hlt
      have h4 := flat_take_le ls (k + 1)
      have hm : ((ls.take k).flatten.length + ls[k].length) * 27 ≤ maxLenD := by
        rw [h3] at h4
        simp only [List.length_append] at h4
        unfold maxLenD; omega
      simp -implicitDefEqProofs -dsimp only [go_sem, h1, hlt, hm]
      refine hN (k + 1) _ (by omega) (by omega) ?_
      simp -implicitDefEqProofs -dsimp only [go_sem, wrap_succ (show k < 9223372036854775807 by omega), ← h3]
    · have h1 : ¬ ((k : Int) < (ls.length : Int)) := by omega
      have : k = ls.length := by omega
      subst this
      simp -implicitDefEqProofs -dsimp only [go_sem, h1, List.take_length]

/-- The closure that looks into the set. -/
theorem spoils1_lim (i : Nat) (m : List Cel) (hi : h[i]? = some (.map (mcs m))) (c : Cel) : lim Tryz.prog cfg 108 [.agg [vs c.1, .sc (.int .u8 c.2.toNat)], .eptr [.mp i]] h = some (vb (decide (c ∈ m)), h) := by
  refine lim_fun fun108 rfl (by simp) rfl ?_
  delta cd108
  have hm : ∀ N : List (DV × DV) → Prop, MapP h i N = N (mcs m) := fun N => by simp only [MapP, hi]
  by_cases hc : c ∈ m <;> simp -implicitDefEqProofs -dsimp only [go_sem, hm, find_mcs, hc]
def idxI : Option Nat → Int
  | some n => n
  | none => -1
theorem idxI_some (n : Nat) : idxI (some n) = n := rfl
theorem idxI_none : idxI none = -1 := rfl
theorem tindexFunc_lim (own : Bool) (l : List Cel) (hl : l.length ≤ 1000000) (i : Nat) (m : List Cel) (hi : h[i]? = some (.map (mcs m))) :
    ∃ r : Int, (decide (0 ≤ r) = l.any fun c => decide (c ∈ m)) ∧ lim Tryz.prog cfg 139 [.list own 2 (cls l), .fn (.func 108) [] [.eptr [.mp i]]] h = some (vi r, h) := by
  refine ⟨idxI (l.findIdx? fun c => decide (c ∈ m)), ?_, ?_⟩
  · cases hf : l.findIdx? (fun c => decide (c ∈ m)) with
    | none =>
      have := List.findIdx?_eq_none_iff.1 hf
      rw [idxI_none]
      rw [Bool.eq_iff_iff]
      simp only [decide_eq_true_eq, List.any_eq_true]
      constructor
      · intro h1; omega
      · rintro ⟨c, hc, h1⟩; have := this c hc; simp at this h1; exact (this h1).elim
    | some n =>
      obtain ⟨hn, h1, h2⟩ := List.findIdx?_eq_some_iff_getElem.1 hf
      rw [idxI_some]
      rw [Bool.eq_iff_iff]
      simp only [decide_eq_true_eq, List.any_eq_true]
      exact ⟨fun _ => ⟨l[n], List.getElem_mem _, by simpa using h1⟩, fun _ => by omega⟩
  refine lim_fun fun139 rfl (by simp) rfl ?_
  delta cd139
  simp -implicitDefEqProofs -dsimp only [go_sem]
  refine wp_for (σ := Nat) (fun k => [(0, .list false 2 (cls l)), (1, .fn (.func 108) [] [.eptr [.mp i]]), (7, vi (l.length : Nat)), (8, vi (k : Nat))]) (fun _ => h) (fun k => l.length - k) (fun k => k ≤ l.length ∧ ∀ j (hj : j < l.length), j < k → l[j] ∉ m) 0 (by simp) rfl rfl ?_
  rintro k ⟨hk, hj⟩ N hN
  by_cases hlt : k < l.length
  · have h1 : ((k : Int) < (l.length : Int)) := by omega
    have hx := spoils1_lim i m hi l[k]
    by_cases hc : l[k] ∈ m
    · have e : l.findIdx? (fun c => decide (c ∈ m)) = some k := List.findIdx?_eq_some_iff_getElem.2 ⟨hlt, by simpa using hc, fun j hjk => by simpa using hj j (by omega) hjk⟩
      simp -implicitDefEqProofs -dsimp only [go_sem, h1, hlt, hx, hc, e, idxI_some]
    · simp -implicitDefEqProofs -dsimp only [go_sem, h1, hlt, hx, hc]
      refine hN (k + 1) _ (by omega) ⟨by omega, fun j hj1 hj2 => ?_⟩ ?_
      · by_cases e : j = k
        · subst e; exact hc
        · exact hj j hj1 (by omega)
      · simp -implicitDefEqProofs -dsimp only [go_sem, wrap_succ (show k < 9223372036854775807 by omega)]
  · have h1 : ¬ ((k : Int) < (l.length : Int)) := by omega
    have : k = l.length := by omega
    subst this
    have e : l.findIdx? (fun c => decide (c ∈ m)) = none := List.findIdx?_eq_none_iff.2 fun c hc => by
      obtain ⟨j, hj1, rfl⟩ := List.getElem_of_mem hc
      simpa using hj j hj1 hj1
    simp -implicitDefEqProofs -dsimp only [go_sem, h1, e, idxI_none]
theorem tcontainsFunc_lim (own : Bool) (l : List Cel) (hl : l.length ≤ 1000000) (i : Nat) (m : List Cel) (hi : h[i]? = some (.map (mcs m))) :
    lim Tryz.prog cfg 107 [.list own 2 (cls l), .fn (.func 108) [] [.eptr [.mp i]]] h = some (vb (l.any fun c => decide (c ∈ m)), h) := by
  refine lim_fun fun107 rfl (by simp) rfl ?_
  delta cd107
  obtain ⟨r, hr, hx⟩ := tindexFunc_lim (h := h) false l hl i m hi
  rw [← hr]
  simp -implicitDefEqProofs -dsimp only [go_sem, hx]
  by_cases h0 : 0 ≤ r <;> simp [h0]
abbrev useD (r w : List Cel) : DV := .agg [.list false 2 (cls r), .list false 2 (cls w)]
theorem spoils_lim (r w r' w' : List Cel) (h1 : r.length ≤ 1000) (h2 : w.length ≤ 1000) (h3 : r'.length ≤ 1000) (h4 : w'.length ≤ 1000) :
    lim Tryz.prog cfg 75 [useD r w, useD r' w'] h = some (vb (spoilsP w r' w'), h) := by
  refine lim_funp fun75 rfl (by simp) (by simp [heapFree, heapFree.all, free_cls]) rfl ?_
  delta cd75
  have hc := concat_lim (h := [.map []]) false [r', w'] (by simp) (by simp; omega)
  have hcl : clss [r', w'] = [[.list false 2 (cls r')], [.list false 2 (cls w')]] := rfl
  have hfl : [r', w'].flatten = r' ++ w' := by simp
  rw [hcl, hfl] at hc
  have hu : (r' ++ w').length ≤ 2000 := by simp; omega
  unfold spoilsP
  generalize r' ++ w' = u at hc hu ⊢
  simp -implicitDefEqProofs -dsimp only [go_sem, hc]
  refine wp_for (σ := Nat × DV) (fun x => [(2, .box [.list false 2 (cls r), .list false 2 (cls w)]), (3, .box [.list false 2 (cls r'), .list false 2 (cls w')]), (5, .box [.mp 0]), (7, x.2), (14, .list true 2 (cls u)), (15, vi (u.length : Nat)), (16, vi (x.1 : Nat))]) (fun x => [.map (mcs (insAll (u.take x.1)))]) (fun x => u.length - x.1) (fun x => x.1 ≤ u.length) (0, .junk) (by simp) rfl rfl ?_
  rintro ⟨k, x⟩ hk N hN
  dsimp only at hk
  by_cases hlt : k < u.length
  · have h1 : ((k : Int) < (u.length : Int)) := by omega
    have hs : insC u[k] (insAll (u.take k)) = insAll (u.take (k + 1)) := by rw [List.take_succ_eq_append_getElem hlt, insAll_snoc]
    have hm : ∀ N : List (DV × DV) → Prop, MapP [.map (mcs (insAll (u.take k)))] 0 N = N (mcs (insAll (u.take k))) := fun N => rfl
    simp -implicitDefEqProofs -dsimp only [go_sem, h1, hlt, hm, set_mcs, hs, List.set_cons_zero]
    refine hN (k + 1, .box [vs u[k].1, .sc (.int .u8 u[k].2.toNat)]) _ (by dsimp only; omega) (by dsimp only; omega) ?_
    simp -implicitDefEqProofs -dsimp only [go_sem, wrap_succ (show k < 9223372036854775807 by omega)]
  · have h1 : ¬ ((k : Int) < (u.length : Int)) := by omega
    have : k = u.length := by omega
    subst this
    have hx := tcontainsFunc_lim (h := [.map (mcs (insAll (u.take u.length)))]) false w (by omega) 0 _ rfl
    simp only [List.take_length, mem_insAll] at hx
    generalize (w.any fun c => decide (c ∈ u)) = z at hx ⊢
    cases z <;> simp -implicitDefEqProofs -dsimp only [go_sem, h1, hx, List.take_length]
theorem uses_lim (c : Cmd) (hp : c.path.length ≤ 1099511627776) : lim Tryz.prog cfg 74 [cmdD c] h = some (useD (usesP c).1 (usesP c).2, h) := by
  refine lim_funp fun74 rfl (by simp) rfl (by simp [heapFree, heapFree.all, free_cls]) ?_
  delta cd74
  have v := valid_lim (h := []) c.path hp
  have u := parent_lim (h := []) c.path hp
  have t1 := tof_lim (h := []) false c.path [101] (by simp)
  have t2 := tof_lim (h := []) false c.path [118] (by simp)
  have t3 := tof_lim (h := []) false c.path [101, 118] (by simp)
  have t4 := tof_lim (h := []) false c.path [101, 107] (by simp)
  have t5 := tof_lim (h := []) false (parentP c.path) [101] (by simp)
  have t6 := tof_lim (h := []) false (parentP c.path) [107] (by simp)
  have m1 : (1 + 1) * 27 ≤ maxLenD := by decide
  have m2 : (2 + 1) * 27 ≤ maxLenD := by decide
  simp only [bys, List.map_cons, List.map_nil, UInt8.toNat_ofNat, Nat.reducePow, Nat.reduceMod, Int.cast_ofNat_Int] at t1 t2 t3 t4 t5 t6
  unfold usesP
  cases h1 : parse c.path with
  | none =>
    rw [h1] at v
    simp -implicitDefEqProofs -dsimp only [go_sem, v]
    simp [cls]
  | some l =>
    rw [h1] at v
    by_cases o4 : c.op = 4
    · simp -implicitDefEqProofs -dsimp only [go_sem, v, o4, t3]
      simp [cls]
    by_cases o5 : c.op = 5
    · simp -implicitDefEqProofs -dsimp only [go_sem, v, o4, o5, t4]
      simp [cls]
    by_cases r : parentP c.path = []
    · by_cases o1 : c.op = 1
      · simp -implicitDefEqProofs -dsimp only [go_sem, v, u, r, o1, t1]
        simp [cls]
      · simp -implicitDefEqProofs -dsimp only [go_sem, v, u, r, o4, o5, o1]
        simp [cls]
    by_cases o1 : c.op = 1
    · simp -implicitDefEqProofs -dsimp only [go_sem, v, u, r, o1, t1, t3, t5, t6]
      simp [ofP, maxLenD]
    by_cases o2 : c.op = 2
    · simp -implicitDefEqProofs -dsimp only [go_sem, v, u, r, o2, t1, t3, t4, t5, t6]
      simp [ofP, maxLenD]
    by_cases o3 : c.op = 3
    · simp -implicitDefEqProofs -dsimp only [go_sem, v, u, r, o3, t1, t2]
    by_cases o6 : c.op = 6
    · simp -implicitDefEqProofs -dsimp only [go_sem, v, u, r, o6, t2, t3]
    · simp -implicitDefEqProofs -dsimp only [go_sem, v, u, r, o4, o5, o1, o2, o3, o6]
      simp [cls]
theorem paths_lim (a b : Cmd) (ha : a.path.length ≤ 1099511627776) (hb : b.path.length ≤ 1099511627776) : lim Tryz.prog cfg 42 [cmdD a, cmdD b] h = some (vb (pathsB a b), h) := by
  refine lim_funp fun42 rfl (by simp) rfl rfl ?_
  delta cd42
  have v := uses_lim (h := []) a ha
  have w := uses_lim (h := []) b hb
  have la := uses_le a
  have lb := uses_le b
  have x := spoils_lim (h := []) (usesP a).1 (usesP a).2 (usesP b).1 (usesP b).2 (by omega) (by omega) (by omega) (by omega)
  have y := spoils_lim (h := []) (usesP b).1 (usesP b).2 (usesP a).1 (usesP a).2 (by omega) (by omega) (by omega) (by omega)
  unfold pathsB
  generalize spoilsP (usesP a).2 (usesP b).1 (usesP b).2 = p at x ⊢
  generalize spoilsP (usesP b).2 (usesP a).1 (usesP a).2 = q at y ⊢
  cases p <;> cases q <;> simp -implicitDefEqProofs -dsimp only [go_sem, v, w, x, y]
theorem control_lim (c : Cmd) : lim Tryz.prog cfg 33 [cmdD c] h = some (vb (controlB c), h) := by
  refine lim_funp fun33 rfl (by simp) rfl rfl ?_
  delta cd33
  unfold controlB
  by_cases o1 : 7 ≤ c.op <;> by_cases o2 : c.op ≤ 9 <;> simp -implicitDefEqProofs -dsimp only [go_sem, o1, o2]
set_option maxHeartbeats 2000000 in
theorem both_lim (a b : Cmd) (ha : a.path.length ≤ 1099511627776) (hb : b.path.length ≤ 1099511627776) : lim Tryz.prog cfg 22 [cmdD a, cmdD b] h = some (vb (bothB a b), h) := by
  refine lim_funp fun22 rfl (by simp) rfl rfl ?_
  delta cd22
  have v := control_lim (h := []) a
  have w := control_lim (h := []) b
  have x := paths_lim (h := []) a b ha hb
  unfold bothB
  by_cases o1 : a.op = 0
  · simp -implicitDefEqProofs -dsimp only [go_sem, o1]
    simp
  by_cases o2 : b.op = 0
  · simp -implicitDefEqProofs -dsimp only [go_sem, o1, o2]
    simp
  generalize controlB a = p at v ⊢
  generalize controlB b = q at w ⊢
  generalize pathsB a b = z at x ⊢
  cases p <;> cases q <;> simp -implicitDefEqProofs -dsimp only [go_sem, o1, o2, v, w, x] <;> by_cases o3 : a.client = b.client <;> cases z <;> simp [o3]
theorem over_lim (own : Bool) (l : List Cmd) (hl : l.length ≤ 1099511627776) : lim Tryz.prog cfg 11 [.list own 8 (cms l)] h = some (vb (overP l), h) := by
  refine lim_funp fun11 rfl (by simp) (by simp [heapFree, free_cms]) rfl ?_
  delta cd11
  simp -implicitDefEqProofs -dsimp only [go_sem]
  refine wp_for (σ := Nat) (fun k => [(0, .list false 8 (cms l)), (3, vi (k : Nat))]) (fun _ => []) (fun k => l.length - k) (fun k => k ≤ l.length ∧ k ≤ 61 ∧ (l.take k).any bigC = false) 0 (by simp) rfl rfl ?_
  rintro k ⟨hk, hk2, hj⟩ N hN
  by_cases hlt : k < l.length
  · have h1 : ((k : Int) < (l.length : Int)) := by omega
    by_cases h60 : k ≤ 60
    · have h2 : ((k : Int) ≤ 60) := by omega
      have hs := List.take_succ_eq_append_getElem hlt
      by_cases hb : bigC l[k] = true
      · have ho : overP l = true := by
          have : (l.take 61).any bigC = true := by
            rw [List.any_eq_true]
            exact ⟨l[k], List.mem_take_iff_getElem.2 ⟨k, by omega, rfl⟩, hb⟩
          simp [overP, this]
        rw [ho]
        simp only [bigC, Bool.or_eq_true, decide_eq_true_eq] at hb
        by_cases b1 : 300 < l[k].path.length
        · have b1' : (300 : Int) < (l[k].path.length : Int) := by omega
          simp -implicitDefEqProofs -dsimp only [go_sem, h1, h2, hlt, b1']
        · have b1' : ¬ (300 : Int) < (l[k].path.length : Int) := by omega
          have b2' : (300 : Int) < (l[k].value.length : Int) := by omega
          simp -implicitDefEqProofs -dsimp only [go_sem, h1, h2, hlt, b1', b2']
      · have hb' := hb
        simp only [bigC, Bool.or_eq_true, decide_eq_true_eq, not_or] at hb
        have b1' : ¬ (300 : Int) < (l[k].path.length : Int) := by omega
        have b2' : ¬ (300 : Int) < (l[k].value.length : Int) := by omega
        simp -implicitDefEqProofs -dsimp only [go_sem, h1, h2, hlt, b1', b2']
        refine hN (k + 1) _ (by omega) ⟨by omega, by omega, ?_⟩ ?_
        · rw [hs, List.any_append, hj]; simpa using hb'
        · simp -implicitDefEqProofs -dsimp only [go_sem, wrap_succ (show k < 9223372036854775807 by omega)]
    · have h2 : ¬ ((k : Int) ≤ 60) := by omega
      have h3 : (60 : Int) < (l.length : Int) := by omega
      have ho : overP l = true := by
        unfold overP
        rw [Bool.or_eq_true]
        exact .inr (decide_eq_true (by omega))
      simp -implicitDefEqProofs -dsimp only [go_sem, h1, h2, h3, ho]
  · have h1 : ¬ ((k : Int) < (l.length : Int)) := by omega
    have : k = l.length := by omega
    subst this
    rw [List.take_length] at hj
    have ho : overP l = decide (60 < l.length) := by
      have : (l.take 61).any bigC = false := by rw [List.take_of_length_le (by omega)]; exact hj
      simp [overP, this]
    rw [ho]
    by_cases h3 : 60 < l.length
    · have h4 : (60 : Int) < (l.length : Int) := by omega
      simp -implicitDefEqProofs -dsimp only [go_sem, h1, h3, h4]
    · have h4 : ¬ (60 : Int) < (l.length : Int) := by omega
      simp -implicitDefEqProofs -dsimp only [go_sem, h1, h3, h4]
end Go.DS

/-
  The directory, plain: what a command keeps.
-/
namespace Go.DS
open Go
set_option linter.unusedVariables false
theorem DirOK.mono {n m n' m' : Nat} {es : Dir} (O : DirOK n m es) (hn : n ≤ n') (hm : m ≤ m') : DirOK n' m' es :=
  ⟨O.nodup, O.path, O.up, O.value, fun e he => ⟨(O.version e he).1, by have := (O.version e he).2; omega⟩, by have := O.len; omega⟩
theorem thereB_iff {es : Dir} {p : Str} : thereB es p = true ↔ p ∈ keys es ∨ p = [47] := by
  unfold thereB
  rw [Bool.or_eq_true, aget_iff, decide_eq_true_eq]
theorem mem_aset {es : Dir} {p : Str} {v : Str × Int} {e : Str × (Str × Int)} (h : e ∈ aset p v es) : e = (p, v) ∨ e ∈ es := by
  induction es with
  | nil => simp [aset] at h; exact .inl h
  | cons x es ih =>
    simp only [aset] at h
    split at h
    · rcases List.mem_cons.1 h with h | h
      · exact .inl h
      · exact .inr (List.mem_cons_of_mem _ h)
    · rcases List.mem_cons.1 h with h | h
      · exact .inr (h ▸ List.mem_cons_self)
      · rcases ih h with h | h
        · exact .inl h
        · exact .inr (List.mem_cons_of_mem _ h)
theorem right_path {c : Cmd} (h : rightB c = true) : ∃ l, parse c.path = some l := by
  simp only [rightB, Bool.and_eq_true] at h
  exact Option.isSome_iff_exists.1 h.1.1
theorem right_value {c : Cmd} (h : rightB c = true) (ho : c.op = 1 ∨ c.op = 3 ∨ c.op = 6) : c.value.length ≤ 64 := by
  simp only [rightB, Bool.and_eq_true, Bool.or_eq_true, decide_eq_true_eq] at h
  rcases h.1.2 with h | h
  · exact absurd ho h
  · exact h
theorem right_root {c : Cmd} (h : rightB c = true) (ho : c.op = 2 ∨ c.op = 3 ∨ c.op = 6) : c.path ≠ [47] := by
  simp only [rightB, Bool.and_eq_true, Bool.or_eq_true, decide_eq_true_eq] at h
  rcases h.2 with h | h
  · exact absurd ho h
  · exact h
theorem parse_ne {p : Str} {l : List Str} (h : parse p = some l) (hp : p ≠ [47]) : l ≠ [] := by
  intro e
  subst e
  have := (parse_some h).2
  exact hp (by rw [this]; simp [pathOf, join_nil])
theorem set_ok {n m : Nat} {es : Dir} (O : DirOK n m es) {p v : Str} {k : Int} (hp : ∃ l, parse p = some l ∧ l ≠ []) (hu : parentP p = [47] ∨ parentP p ∈ keys es) (hv : v.length ≤ 64) (hk : 1 ≤ k ∧ k ≤ m + 1) : DirOK (n + 1) (m + 1) (aset p (v, k) es) := by
  have hks : ∀ q, q ∈ keys (aset p (v, k) es) ↔ q ∈ keys es ∨ q = p := fun q => by
    rw [keys_set]
    by_cases h : p ∈ keys es
    · rw [if_pos h]
      constructor
      · exact .inl
      · rintro (h1 | rfl)
        · exact h1
        · exact h
    · rw [if_neg h]; simp
  refine ⟨nodup_set O.nodup, fun q hq => ?_, fun q hq => ?_, fun e he => ?_, fun e he => ?_, ?_⟩
  · rcases (hks q).1 hq with h | rfl
    · exact O.path q h
    · exact hp
  · rcases (hks q).1 hq with h | rfl
    · rcases O.up q h with h1 | h1
      · exact .inl h1
      · exact .inr ((hks _).2 (.inl h1))
    · rcases hu with h1 | h1
      · exact .inl h1
      · exact .inr ((hks _).2 (.inl h1))
  · rcases mem_aset he with rfl | h
    · exact hv
    · exact O.value e h
  · rcases mem_aset he with rfl | h
    · exact ⟨hk.1, by simpa using hk.2⟩
    · have := O.version e h; exact ⟨this.1, by omega⟩
  · rw [len_set]; have := O.len; split <;> omega
theorem cur_ok {n m : Nat} {es : Dir} (O : DirOK n m es) {p : Str} (hp : p ∈ keys es) : 1 ≤ (curP es p).2 ∧ (curP es p).2 ≤ m := by
  obtain ⟨v, hv⟩ := Option.isSome_iff_exists.1 (aget_iff.2 hp)
  have := O.version _ (aget_mem hv)
  simpa [curP, hv] using this
theorem childs_nil {es : Dir} {p : Str} (h : childs es p = []) : ∀ k ∈ keys es, parentP k ≠ p := by
  intro k hk e
  have hm : lastP k ∈ childs es p := by
    unfold childs sortC
    rw [(List.mergeSort_perm _ _).mem_iff]
    exact List.mem_map_of_mem (List.mem_filter.2 ⟨hk, by simp [e]⟩)
  rw [h] at hm
  cases hm
theorem applyP_ok {n m : Nat} {es : Dir} (O : DirOK n m es) (c : Cmd) : DirOK (n + 1) (m + 1) (applyP es c).2 := by
  have O' := O.mono (Nat.le_succ n) (Nat.le_succ m)
  unfold applyP
  split
  · exact O'
  · rename_i h0
    have hr : rightB c = true := by
      cases h : rightB c
      · exact absurd (.inr h) h0
      · rfl
    obtain ⟨l, hl⟩ := right_path hr
    split
    · rename_i h1
      unfold createP
      split
      · exact O'
      · rename_i ht
        split
        · exact O'
        · rename_i hu
          have hne : c.path ≠ [47] := fun e => ht (thereB_iff.2 (.inr e))
          have hu' : thereB es (parentP c.path) = true := by simpa using hu
          exact set_ok O ⟨l, hl, parse_ne hl hne⟩ ((thereB_iff.1 hu').symm.imp id id) (right_value hr (.inl h1)) ⟨by omega, by omega⟩
    · split
      · exact O'
      · rename_i ht
        have ht' : thereB es c.path = true := by simpa using ht
        have hset : (c.op = 3 ∨ c.op = 6) → DirOK (n + 1) (m + 1) (setR es c).2 := fun ho => by
          have hne := right_root hr (.inr ho)
          have hk : c.path ∈ keys es := (thereB_iff.1 ht').resolve_right hne
          have := cur_ok O hk
          exact set_ok O ⟨l, hl, parse_ne hl hne⟩ (O.up _ hk) (right_value hr (by omega)) ⟨by omega, by omega⟩
        split
        · rename_i h2
          unfold removeP
          split
          · exact O'
          · rename_i hc
            have hc' : childs es c.path = [] := by simpa using hc
            have hks : ∀ q, q ∈ keys (adel c.path es) ↔ q ∈ keys es ∧ q ≠ c.path := fun q => by rw [keys_del O.nodup]; simp [List.mem_filter]
            have hsub : ∀ e ∈ adel c.path es, e ∈ es := fun e he => by rw [adel_eq O.nodup] at he; exact (List.mem_filter.1 he).1
            refine ⟨nodup_del O.nodup, fun q hq => O.path q ((hks q).1 hq).1, fun q hq => ?_, fun e he => O.value e (hsub e he), fun e he => ?_, ?_⟩
            · rcases O.up q ((hks q).1 hq).1 with h | h
              · exact .inl h
              · exact .inr ((hks _).2 ⟨h, childs_nil hc' q ((hks q).1 hq).1⟩)
            · have := O.version e (hsub e he); exact ⟨this.1, by omega⟩
            · show (adel c.path es).length ≤ n + 1
              rw [adel_eq O.nodup]
              have := List.length_filter_le (fun e : Str × (Str × Int) => decide (e.1 ≠ c.path)) es
              have := O.len
              omega
        · split
          · rename_i h3; exact hset (.inl h3)
          · split
            · exact O'
            · split
              · exact O'
              · rename_i h1 h2 h3 h4 h5
                unfold casP
                split
                · exact O'
                · exact hset (.inr (by omega))
end Go.DS

/-
  The directory, plain: many commands; reading.
-/
namespace Go.DS
open Go
set_option linter.unusedVariables false
/-- Commands, one behind the other. -/
def doAll (es : Dir) (l : List Cmd) : Dir := l.foldl (fun es c => (applyP es c).2) es
theorem doAll_snoc (es : Dir) (l : List Cmd) (c : Cmd) : doAll es (l ++ [c]) = (applyP (doAll es l) c).2 := by simp [doAll]
theorem doAll_ok {n m : Nat} {es : Dir} (O : DirOK n m es) : ∀ l : List Cmd, DirOK (n + l.length) (m + l.length) (doAll es l) := by
  intro l
  induction l generalizing n m es with
  | nil => exact O
  | cons c l ih =>
    have := ih (applyP_ok O c)
    have e : doAll es (c :: l) = doAll (applyP es c).2 l := rfl
    rw [e]
    exact this.mono (by simp; omega) (by simp; omega)
/-- A reading. -/
def getC (p : Str) : Cmd := ⟨0, 0, 4, p, [], 0, 0, 0⟩
def getR (es : Dir) (p : Str) : Rep :=
  if (parse p).isSome = false then { err := 1 } else if thereB es p = false then { err := 2 } else { value := (curP es p).1, version := (curP es p).2 }
theorem apply_get (es : Dir) (p : Str) : applyP es (getC p) = (getR es p, es) := by
  unfold applyP getR getC
  cases h : (parse p).isSome <;> cases h2 : thereB es p <;> simp [rightB, h, h2]
/-- What a command does to another path. -/
theorem apply_other {n m : Nat} {es : Dir} (O : DirOK n m es) (c : Cmd) {p : Str} (hp : p ≠ c.path) : aget p (applyP es c).2 = aget p es := by
  have hs : ∀ v, aget p (aset c.path v es) = aget p es := fun v => by rw [aget_set, if_neg hp]
  have hd : aget p (adel c.path es) = aget p es := by rw [aget_del O.nodup, if_neg hp]
  unfold applyP createP removeP casP setR
  repeat' split
  all_goals first | rfl | exact hs _ | exact hd
theorem get_congr {es es' : Dir} {p : Str} (h : aget p es' = aget p es) : getR es' p = getR es p := by
  unfold getR thereB curP; rw [h]
end Go.DS

/-
  The directory, plain: what a reply tells; its entries make it again; two of the same entries.
-/
namespace Go.DS
open Go
set_option linter.unusedVariables false
theorem entries_len (es : Dir) : (entriesP es).length = es.length := by simp [entriesP, sortC, List.length_mergeSort, keys_len]
theorem getR_there {es : Dir} {p : Str} {l : List Str} (h : parse p = some l) (ht : thereB es p = true) : getR es p = { value := (curP es p).1, version := (curP es p).2 } := by simp [getR, h, ht]
theorem getR_not {es : Dir} {p : Str} {l : List Str} (h : parse p = some l) (ht : thereB es p = false) : getR es p = { err := 2 } := by simp [getR, h, ht]
theorem cur_set (es : Dir) (p : Str) (v : Str × Int) : curP (aset p v es) p = v := by simp [curP, aget_set]
theorem there_set (es : Dir) (p : Str) (v : Str × Int) : thereB (aset p v es) p = true := by simp [thereB, aget_set]
theorem there_del {es : Dir} (h : (keys es).Nodup) {p : Str} (hp : p ≠ [47]) : thereB (adel p es) p = false := by simp [thereB, aget_del h, hp]
theorem len_del {k : Str} {es : Dir} (h : k ∈ keys es) : (adel k es).length + 1 = es.length := by
  induction es with
  | nil => simp [keys] at h
  | cons e es ih =>
    simp only [adel]
    by_cases hk : k = e.1
    · rw [if_pos hk]; simp
    · rw [if_neg hk]; rw [keys_cons] at h; have := ih ((List.mem_cons.1 h).resolve_left hk); simp; omega
theorem aset_new {k : Str} {v : Str × Int} {es : Dir} (h : k ∉ keys es) : aset k v es = es ++ [(k, v)] := by
  induction es with
  | nil => rfl
  | cons e es ih =>
    rw [keys_cons] at h
    have h1 : k ≠ e.1 := fun e' => h (e' ▸ List.mem_cons_self)
    simp only [aset, if_neg h1, ih (fun h' => h (List.mem_cons_of_mem _ h')), List.cons_append]
/-- What a reply tells of the change. -/
theorem reads_plain {n m : Nat} {es : Dir} (O : DirOK n m es) (c : Cmd) :
    ((applyP es c).2 = es ∧ ((applyP es c).1.err ≠ 0 ∨ c.op = 4 ∨ c.op = 5)) ∨
    ((applyP es c).1.err = 0 ∧ c.op = 1 ∧ (getR es c.path).err = 2 ∧ (getR (applyP es c).2 c.path).value = c.value ∧ (getR (applyP es c).2 c.path).version = 1 ∧ (applyP es c).2.length = es.length + 1) ∨
    ((applyP es c).1.err = 0 ∧ c.op = 2 ∧ (getR es c.path).err = 0 ∧ (getR (applyP es c).2 c.path).err = 2 ∧ (applyP es c).2.length + 1 = es.length) ∨
    ((applyP es c).1.err = 0 ∧ (c.op = 3 ∨ c.op = 6) ∧ (getR (applyP es c).2 c.path).value = c.value ∧ (getR (applyP es c).2 c.path).version = (getR es c.path).version + 1 ∧ (applyP es c).1.version = (getR es c.path).version + 1
      ∧ (applyP es c).2.length = es.length ∧ 0 ≤ (getR es c.path).version ∧ (getR es c.path).version ≤ m) := by
  by_cases h0 : (c.op < 1 ∨ 6 < c.op) ∨ rightB c = false
  · left; unfold applyP; rw [if_pos h0]; exact ⟨rfl, .inl (by simp)⟩
  have hr : rightB c = true := by
    cases h : rightB c
    · exact absurd (.inr h) h0
    · rfl
  obtain ⟨l, hl⟩ := right_path hr
  by_cases h1 : c.op = 1
  · have e : applyP es c = createP es c := by unfold applyP; rw [if_neg h0, if_pos h1]
    rw [e]
    unfold createP
    split
    · left; exact ⟨rfl, .inl (by simp)⟩
    · rename_i ht
      have ht' : thereB es c.path = false := by simpa using ht
      split
      · left; exact ⟨rfl, .inl (by simp)⟩
      · right; left
        have hk : c.path ∉ keys es := fun h => ht (thereB_iff.2 (.inl h))
        refine ⟨rfl, h1, by rw [getR_not hl ht'], ?_, ?_, ?_⟩
        · rw [getR_there hl (there_set _ _ _), cur_set]
        · rw [getR_there hl (there_set _ _ _), cur_set]
        · rw [len_set, if_neg hk]
  · by_cases ht : thereB es c.path = false
    · left; unfold applyP; rw [if_neg h0, if_neg h1, if_pos ht]; exact ⟨rfl, .inl (by simp)⟩
    have ht' : thereB es c.path = true := by simpa using ht
    have hset : (c.op = 3 ∨ c.op = 6) → (setR es c).1.err = 0 ∧ (c.op = 3 ∨ c.op = 6) ∧ (getR (setR es c).2 c.path).value = c.value ∧ (getR (setR es c).2 c.path).version = (getR es c.path).version + 1 ∧ (setR es c).1.version = (getR es c.path).version + 1
      ∧ (setR es c).2.length = es.length ∧ 0 ≤ (getR es c.path).version ∧ (getR es c.path).version ≤ m := fun ho => by
      have hne := right_root hr (.inr ho)
      have hk : c.path ∈ keys es := (thereB_iff.1 ht').resolve_right hne
      have hc := cur_ok O hk
      have hb : (setR es c).2 = aset c.path (c.value, (curP es c.path).2 + 1) es := rfl
      refine ⟨rfl, ho, ?_, ?_, ?_, ?_, ?_, ?_⟩
      · rw [hb, getR_there hl (there_set _ _ _), cur_set]
      · rw [hb, getR_there hl (there_set _ _ _), cur_set, getR_there hl ht']
      · rw [getR_there hl ht']; rfl
      · rw [hb, len_set, if_pos hk]
      · rw [getR_there hl ht']; simp only; omega
      · rw [getR_there hl ht']; exact hc.2
    by_cases h2 : c.op = 2
    · have e : applyP es c = removeP es c := by unfold applyP; rw [if_neg h0, if_neg h1, if_neg ht, if_pos h2]
      rw [e]
      unfold removeP
      split
      · left; exact ⟨rfl, .inl (by simp)⟩
      · right; right; left
        have hne := right_root hr (.inl h2)
        have hk : c.path ∈ keys es := (thereB_iff.1 ht').resolve_right hne
        exact ⟨rfl, h2, by rw [getR_there hl ht'], by rw [getR_not hl (there_del O.nodup hne)], len_del hk⟩
    · by_cases h3 : c.op = 3
      · have e : applyP es c = setR es c := by unfold applyP; rw [if_neg h0, if_neg h1, if_neg ht, if_neg h2, if_pos h3]
        rw [e]
        exact .inr (.inr (.inr (hset (.inl h3))))
      · by_cases h4 : c.op = 4
        · left; unfold applyP; rw [if_neg h0, if_neg h1, if_neg ht, if_neg h2, if_neg h3, if_pos h4]; exact ⟨rfl, .inr (.inl h4)⟩
        · by_cases h5 : c.op = 5
          · left; unfold applyP; rw [if_neg h0, if_neg h1, if_neg ht, if_neg h2, if_neg h3, if_neg h4, if_pos h5]; exact ⟨rfl, .inr (.inr h5)⟩
          · have h6 : c.op = 6 := by omega
            have e : applyP es c = casP es c := by unfold applyP; rw [if_neg h0, if_neg h1, if_neg ht, if_neg h2, if_neg h3, if_neg h4, if_neg h5]
            rw [e]
            unfold casP
            split
            · left; exact ⟨rfl, .inl (by simp)⟩
            · exact .inr (.inr (.inr (hset (.inr h6))))
/-- Sorted. -/
theorem sortC_pw {cf : Str → Str → Int} {ks l : List Str} (H : OrdOK cf ks) (hm : ∀ x ∈ l, x ∈ ks) : (sortC cf l).Pairwise fun a b => ¬ cf b a < 0 := by
  have htr : ∀ a ∈ ks, ∀ b ∈ ks, ∀ c ∈ ks, (!decide (cf b a < 0)) = true → (!decide (cf c b < 0)) = true → (!decide (cf c a < 0)) = true := fun a ha b hb c hc => by
    simp only [Bool.not_eq_true', decide_eq_false_iff_not]
    exact fun h1 h2 => H.ntrans c hc b hb a ha h2 h1
  have htot : ∀ a ∈ ks, ∀ b ∈ ks, ((!decide (cf b a < 0)) || (!decide (cf a b < 0))) = true := fun a ha b hb => by
    by_cases h1 : cf b a < 0
    · by_cases h2 : cf a b < 0
      · exact absurd (H.trans a ha b hb a ha h2 h1) (H.irrefl a ha)
      · simp [h2]
    · simp [h1]
  have s1 : (l.mergeSort fun x y => !decide (cf y x < 0)).Pairwise fun a b => (!decide (cf b a < 0)) = true := by
    have e : l = (l.attachWith (· ∈ ks) hm).map (·.1) := by simp
    rw [e, ← List.map_mergeSort (r := fun (x y : { s : Str // s ∈ ks }) => !decide (cf y.1 x.1 < 0)) (fun a _ b _ => rfl), List.pairwise_map]
    exact List.pairwise_mergeSort (fun a b c => htr a.1 a.2 b.1 b.2 c.1 c.2) (fun a b => htot a.1 a.2 b.1 b.2) _
  exact s1.imp fun h => by simpa using h
theorem sortC_mem' {cf : Str → Str → Int} {l : List Str} {x : Str} : x ∈ sortC cf l ↔ x ∈ l := (List.mergeSort_perm l _).mem_iff
theorem sortC_nodup {cf : Str → Str → Int} {l : List Str} (h : l.Nodup) : (sortC cf l).Nodup := (List.mergeSort_perm l _).nodup_iff.2 h
/-- Two rows that are sorted, of the same. -/
theorem sorted_eq {cf : Str → Str → Int} {ks l m : List Str} (H : OrdOK cf ks) (hl : ∀ x ∈ l, x ∈ ks) (s1 : l.Pairwise fun a b => ¬ cf b a < 0) (s2 : m.Pairwise fun a b => ¬ cf b a < 0) (hp : l.Perm m) : l = m := by
  refine List.Perm.eq_of_pairwise ?_ s1 s2 hp
  intro a b ha hb h1 h2
  exact H.total a (hl a ha) b (hl b (hp.mem_iff.2 hb)) h2 h1
theorem ordDir {n m : Nat} {es : Dir} (O : DirOK n m es) : OrdOK ordP (keys es) := ordOK_path fun k hk => by obtain ⟨l, hl, _⟩ := O.path k hk; exact ⟨l, hl⟩
theorem entries_keys (es : Dir) : keys (entriesP es) = sortC ordP (keys es) := by simp [entriesP, keys, List.map_map, Function.comp_def]
theorem aget_map {ks : List Str} {f : Str → Str × Int} {p : Str} : aget p (ks.map fun k => (k, f k)) = if p ∈ ks then some (f p) else none := by
  induction ks with
  | nil => simp [aget]
  | cons k ks ih =>
    simp only [List.map_cons, aget, ih]
    by_cases h : p = k
    · subst h; simp
    · simp [h]
theorem entries_get (es : Dir) (p : Str) : aget p (entriesP es) = aget p es := by
  unfold entriesP
  rw [aget_map]
  split
  · rename_i h
    rw [sortC_mem'] at h
    obtain ⟨v, hv⟩ := Option.isSome_iff_exists.1 (aget_iff.2 h)
    simp [hv]
  · rename_i h
    rw [sortC_mem'] at h
    exact (aget_none.2 h).symm
/-- Two directories that have the same have the same entries. -/
theorem entries_congr {n m n' m' : Nat} {es es' : Dir} (O : DirOK n m es) (O' : DirOK n' m' es') (h : ∀ p, aget p es = aget p es') : entriesP es = entriesP es' := by
  have hk : ∀ p, p ∈ keys es ↔ p ∈ keys es' := fun p => by rw [← aget_iff, ← aget_iff, h]
  have hp : (keys es).Perm (keys es') := by
    rw [List.perm_ext_iff_of_nodup O.nodup O'.nodup]; exact hk
  have e : sortC ordP (keys es) = sortC ordP (keys es') :=
    sorted_eq (ordDir O) (fun x hx => sortC_mem'.1 hx) (sortC_pw (ordDir O) fun x hx => hx) (sortC_pw (ordDir O') fun x hx => hx) ((List.mergeSort_perm _ _).trans (hp.trans (List.mergeSort_perm _ _).symm))
  unfold entriesP
  rw [e]
  exact List.map_congr_left fun k _ => by rw [h]
theorem entries_ok {n m : Nat} {es : Dir} (O : DirOK n m es) : DirOK n m (entriesP es) := by
  have hm : ∀ k, k ∈ keys (entriesP es) ↔ k ∈ keys es := fun k => by rw [entries_keys, sortC_mem']
  have hmem : ∀ e ∈ entriesP es, e ∈ es := fun e he => by
    unfold entriesP at he
    obtain ⟨k, hk, rfl⟩ := List.mem_map.1 he
    obtain ⟨v, hv⟩ := Option.isSome_iff_exists.1 (aget_iff.2 (sortC_mem'.1 hk))
    rw [hv]; exact aget_mem hv
  exact ⟨by rw [entries_keys]; exact sortC_nodup O.nodup, fun k hk => O.path k ((hm k).1 hk), fun k hk => (O.up k ((hm k).1 hk)).imp id (hm _).2, fun e he => O.value e (hmem e he), fun e he => O.version e (hmem e he), by rw [entries_len]; exact O.len⟩
theorem entries_entries {n m : Nat} {es : Dir} (O : DirOK n m es) : entriesP (entriesP es) = entriesP es := entries_congr (entries_ok O) O (entries_get es)
/-- Entries stand rising. -/
theorem entries_pw {n m : Nat} {es : Dir} (O : DirOK n m es) : (keys (entriesP es)).Pairwise fun a b => lessP a b = true := by
  rw [entries_keys]
  have h := (sortC_pw (ordDir O) fun x hx => hx).and (sortC_nodup (cf := ordP) O.nodup)
  refine List.Pairwise.imp_of_mem ?_ h
  intro a b ha hb hab
  have e : ¬ ordP b a < 0 := hab.1
  have ne : a ≠ b := hab.2
  have := (ordDir O).total a (sortC_mem'.1 ha) b (sortC_mem'.1 hb)
  have h2 : ordP a b < 0 := Decidable.byContradiction fun h2 => ne (this h2 e)
  unfold ordP at h2
  split at h2
  · assumption
  · omega
/-- A path's parent comes ahead of it. -/
theorem cmpF_pre {α : Type} {F : α → α → Int} (T : TotalCmp F) : ∀ (l : List α), l ≠ [] → cmpF F l.dropLast l < 0
  | [], h => absurd rfl h
  | [a], _ => by simp [cmpF]
  | a :: b :: l, _ => by
    have ih := cmpF_pre T (b :: l) (by simp)
    have h0 : F a a = 0 := (T.zero a a).2 rfl
    rw [List.dropLast_cons_of_ne_nil (by simp)]
    simp only [cmpF, h0, ne_eq, not_true, if_false]
    exact ih
theorem parse_parent {p : Str} {l : List Str} (h : parse p = some l) (h0 : l ≠ []) : parse (parentP p) = some l.dropLast ∧ parentP p ≠ [] := by
  have hn : namesP p = l := by simp [namesP, h]
  have hok := (parse_some h).1
  have : parentP p = pathOf l.dropLast := by simp [parentP, hn, h0]
  refine ⟨?_, by rw [this]; simp [pathOf]⟩
  rw [this]
  exact parse_pathOf (okL_sub hok (by simp) fun s hs => List.dropLast_subset _ hs)
theorem parent_less {p : Str} {l : List Str} (h : parse p = some l) (h0 : l ≠ []) : lessP (parentP p) p = true := by
  unfold lessP
  rw [(parse_parent h h0).1, h]
  simp [cmpF_pre cmpB_total l h0]
theorem less_asym {p q : Str} (h : lessP p q = true) : ¬ lessP q p = true := by
  unfold lessP at *
  split at h
  · rename_i a b ha hb
    rw [ha, hb]
    have T := cmpF_total cmpB_total
    simp only [decide_eq_true_eq] at h ⊢
    intro h2
    exact T.irrefl a (T.trans a b a h h2)
  · cases h
theorem depth_pos {p : Str} {l : List Str} (h : parse p = some l) (h0 : l ≠ []) : ¬ depthP p < 1 := by
  have : 0 < l.length := List.length_pos_iff.2 h0
  simp only [depthP, h]
  omega
end Go.DS

/-
  The directory, plain: how many names are told.
-/
namespace Go.DS
open Go
set_option linter.unusedVariables false
theorem childs_len (es : Dir) (p : Str) : (childs es p).length ≤ es.length := by
  unfold childs sortC
  rw [List.length_mergeSort, List.length_map]
  exact Nat.le_trans (List.length_filter_le _ _) (by rw [keys_len]; exact Nat.le_refl _)
theorem apply_names (es : Dir) (c : Cmd) : (applyP es c).1.names.length ≤ es.length ∧ (applyP es c).1.err ≠ 6 := by
  have hc := childs_len es c.path
  unfold applyP createP removeP casP setR
  repeat' split
  all_goals first | exact ⟨Nat.zero_le _, by simp⟩ | exact ⟨hc, by simp⟩
end Go.DS

/-
  The directory, plain: two commands that do not matter to each other.
-/
namespace Go.DS
open Go
set_option linter.unusedVariables false
def editP (f : Option (Option (Str × Int))) (p : Str) (es : Dir) : Dir := match f with
  | none => es
  | some none => adel p es
  | some (some v) => aset p v es
/-- What of the entries a command looks at. -/
structure View where
  here : Bool
  cur : Str × Int
  kids : List Str
  up : Bool
def viewP (es : Dir) (c : Cmd) : View :=
  ⟨thereB es c.path, if c.op = 3 ∨ c.op = 4 ∨ c.op = 6 then curP es c.path else ([], 0), if c.op = 2 ∨ c.op = 5 then childs es c.path else [], if c.op = 1 then thereB es (parentP c.path) else false⟩
def setV (c : Cmd) (k : Int) : Rep × Option (Option (Str × Int)) := ({ version := k + 1 }, some (some (c.value, k + 1)))
def goodC (c : Cmd) : Prop := ¬ ((c.op < 1 ∨ 6 < c.op) ∨ rightB c = false)
instance (c : Cmd) : Decidable (goodC c) := inferInstanceAs (Decidable (¬ _))
def stepP (c : Cmd) (v : View) : Rep × Option (Option (Str × Int)) :=
  if (c.op < 1 ∨ 6 < c.op) ∨ rightB c = false then ({ err := 1 }, none)
  else if c.op = 1 then (if v.here = true then ({ err := 3 }, none) else if v.up = false then ({ err := 2 }, none) else ({ version := 1 }, some (some (c.value, 1))))
  else if v.here = false then ({ err := 2 }, none)
  else if c.op = 2 then (if v.kids ≠ [] then ({ err := 4 }, none) else ({}, some none))
  else if c.op = 3 then setV c v.cur.2
  else if c.op = 4 then ({ value := v.cur.1, version := v.cur.2 }, none)
  else if c.op = 5 then ({ names := v.kids }, none)
  else if v.cur.2 ≠ c.version then ({ err := 5, version := v.cur.2 }, none) else setV c v.cur.2
theorem apply_step (es : Dir) (c : Cmd) : applyP es c = ((stepP c (viewP es c)).1, editP (stepP c (viewP es c)).2 c.path es) := by
  unfold applyP stepP
  by_cases h0 : (c.op < 1 ∨ 6 < c.op) ∨ rightB c = false
  · rw [if_pos h0, if_pos h0]; rfl
  rw [if_neg h0, if_neg h0]
  by_cases h1 : c.op = 1
  · rw [if_pos h1, if_pos h1]
    simp only [viewP, h1, if_true, createP]
    by_cases h2 : thereB es c.path = true
    · simp only [h2, if_true]; rfl
    · by_cases h3 : thereB es (parentP c.path) = false
      · simp only [h2, h3, if_true, if_false]; rfl
      · simp only [h2, h3, if_true, if_false]; rfl
  rw [if_neg h1, if_neg h1]
  by_cases ht : thereB es c.path = false
  · simp only [viewP, ht, if_true]; rfl
  have ht' : ¬ (viewP es c).here = false := ht
  rw [if_neg ht, if_neg ht']
  by_cases h2 : c.op = 2
  · rw [if_pos h2, if_pos h2]
    have hv : (viewP es c).kids = childs es c.path := by simp [viewP, h2]
    rw [hv]
    unfold removeP
    split <;> rfl
  rw [if_neg h2, if_neg h2]
  by_cases h3 : c.op = 3
  · rw [if_pos h3, if_pos h3]
    have hv : (viewP es c).cur = curP es c.path := by simp [viewP, h3]
    rw [hv]; rfl
  rw [if_neg h3, if_neg h3]
  by_cases h4 : c.op = 4
  · rw [if_pos h4, if_pos h4]
    have hv : (viewP es c).cur = curP es c.path := by simp [viewP, h4]
    rw [hv]; rfl
  rw [if_neg h4, if_neg h4]
  by_cases h5 : c.op = 5
  · rw [if_pos h5, if_pos h5]
    have hv : (viewP es c).kids = childs es c.path := by simp [viewP, h5]
    rw [hv]; rfl
  rw [if_neg h5, if_neg h5]
  have h6 : c.op = 6 := by omega
  have hv : (viewP es c).cur = curP es c.path := by simp [viewP, h6]
  rw [hv]
  unfold casP
  split <;> rfl
/-- What a command reads, and writes, by its kind. -/
theorem uses_good {c : Cmd} (h : goodC c) : ∃ l, parse c.path = some l ∧ (c.path, 101) ∈ (usesP c).1 ∧ (c.op = 1 → c.path ≠ [47] → (parentP c.path, 101) ∈ (usesP c).1) ∧ (c.op = 3 ∨ c.op = 4 ∨ c.op = 6 → (c.path, 118) ∈ (usesP c).1 ∨ (c.path, 118) ∈ (usesP c).2)
    ∧ (c.op = 2 ∨ c.op = 5 → (c.path, 107) ∈ (usesP c).1) ∧ (c.op = 3 ∨ c.op = 6 → (c.path, 118) ∈ (usesP c).2)
    ∧ (c.op = 1 ∨ c.op = 2 → c.path ≠ [47] → (c.path, 101) ∈ (usesP c).2 ∧ (c.path, 118) ∈ (usesP c).2 ∧ (parentP c.path, 107) ∈ (usesP c).2) := by
  have hr : rightB c = true := by
    cases h' : rightB c
    · exact absurd (.inr h') h
    · rfl
  obtain ⟨l, hl⟩ := right_path hr
  have hop1 : ¬ c.op < 1 := fun x => h (.inl (.inl x))
  have hop2 : ¬ 6 < c.op := fun x => h (.inl (.inr x))
  have hroot := root_iff hl
  have hin : c.op = 2 ∨ c.op = 3 ∨ c.op = 6 → parentP c.path ≠ [] := fun ho e => right_root hr ho (hroot.1 e)
  have hne : parse c.path ≠ none := by rw [hl]; simp
  refine ⟨l, hl, ?_⟩
  have hcase : c.op = 1 ∨ c.op = 2 ∨ c.op = 3 ∨ c.op = 4 ∨ c.op = 5 ∨ c.op = 6 := by omega
  unfold usesP
  rw [if_neg hne]
  rcases hcase with e | e | e | e | e | e
  · by_cases hp : parentP c.path = []
    · have hp' := hroot.1 hp
      exact ⟨by simp [e, hp, ofP], fun _ hn => absurd hp' hn, fun ho => by omega, fun ho => by omega, fun ho => by omega, fun _ hn => absurd hp' hn⟩
    · have hp' : c.path ≠ [47] := fun e' => hp (hroot.2 e')
      simp [e, hp, ofP]
  · have hp := hin (.inl e); simp [e, hp, ofP]
  · have hp := hin (.inr (.inl e)); simp [e, hp, ofP]
  · simp [e, ofP]
  · simp [e, ofP]
  · have hp := hin (.inr (.inr e)); simp [e, hp, ofP]
theorem step_edit {es : Dir} {c : Cmd} {g : Option (Str × Int)} (h : (stepP c (viewP es c)).2 = some g) :
    goodC c ∧ ((c.op = 1 ∨ c.op = 2) ∧ c.path ≠ [47] ∨ (c.op = 3 ∨ c.op = 6) ∧ (∃ v, g = some v) ∧ c.path ≠ [47] ∧ c.path ∈ keys es) := by
  unfold stepP at h
  by_cases h0 : goodC c
  · rw [if_neg h0] at h
    refine ⟨h0, ?_⟩
    have hr : rightB c = true := by
      cases h' : rightB c
      · exact absurd (.inr h') h0
      · rfl
    by_cases h1 : c.op = 1
    · rw [if_pos h1] at h
      left
      refine ⟨.inl h1, fun e => ?_⟩
      have : (viewP es c).here = true := thereB_iff.2 (.inr e)
      rw [if_pos this] at h; cases h
    rw [if_neg h1] at h
    by_cases ht : (viewP es c).here = false
    · rw [if_pos ht] at h; cases h
    rw [if_neg ht] at h
    by_cases h2 : c.op = 2
    · exact .inl ⟨.inr h2, right_root hr (.inl h2)⟩
    rw [if_neg h2] at h
    have hk : c.path ≠ [47] → c.path ∈ keys es := fun hne => by
      have : thereB es c.path = true := by simpa [viewP] using ht
      exact (thereB_iff.1 this).resolve_right hne
    by_cases h3 : c.op = 3
    · rw [if_pos h3] at h
      right
      have hne := right_root hr (.inr (.inl h3))
      refine ⟨.inl h3, ?_, hne, hk hne⟩
      simp only [setV, Option.some.injEq] at h
      exact ⟨_, h.symm⟩
    rw [if_neg h3] at h
    by_cases h4 : c.op = 4
    · rw [if_pos h4] at h; cases h
    rw [if_neg h4] at h
    by_cases h5 : c.op = 5
    · rw [if_pos h5] at h; cases h
    rw [if_neg h5] at h
    have h6 : c.op = 6 := by
      have : ¬ (c.op < 1 ∨ 6 < c.op) := fun x => h0 (.inl x)
      omega
    right
    have hne := right_root hr (.inr (.inr h6))
    refine ⟨.inr h6, ?_, hne, hk hne⟩
    split at h
    · cases h
    · simp only [setV, Option.some.injEq] at h
      exact ⟨_, h.symm⟩
  · rw [if_pos (Decidable.not_not.1 h0)] at h; cases h
theorem step_bad {c : Cmd} (h : ¬ goodC c) (v w : View) : stepP c v = stepP c w := by unfold stepP; rw [if_pos (Decidable.not_not.1 h), if_pos (Decidable.not_not.1 h)]
theorem paths_clash {a b : Cmd} (h : pathsB a b = false) {x : Cel} (hw : x ∈ (usesP a).2) : x ∉ (usesP b).1 ∧ x ∉ (usesP b).2 := by
  have h1 : spoilsP (usesP a).2 (usesP b).1 (usesP b).2 = false := by
    unfold pathsB at h
    rw [Bool.or_eq_false_iff] at h
    exact h.1
  unfold spoilsP at h1
  rw [List.any_eq_false] at h1
  have := h1 x hw
  simp only [decide_eq_true_eq, List.mem_append, not_or] at this
  exact this
theorem edit_get {es : Dir} (h : (keys es).Nodup) {f : Option (Option (Str × Int))} {p q : Str} (hq : q ≠ p) : aget q (editP f p es) = aget q es := by
  unfold editP
  split
  · rfl
  · rw [aget_del h, if_neg hq]
  · rw [aget_set, if_neg hq]
theorem edit_self {es : Dir} (h : (keys es).Nodup) {g : Option (Str × Int)} {p : Str} : aget p (editP (some g) p es) = g := by
  cases g with
  | none => show aget p (adel p es) = none; rw [aget_del h]; simp
  | some v => show aget p (aset p v es) = some v; rw [aget_set]; simp
theorem edit_keys {es : Dir} (h : (keys es).Nodup) {f : Option (Option (Str × Int))} {p : Str} (P : Str → Bool) (hp : P p = false) : (keys (editP f p es)).filter P = (keys es).filter P := by
  unfold editP
  split
  · rfl
  · rw [keys_del h, List.filter_filter]
    apply List.filter_congr
    intro x _
    by_cases e : x = p
    · subst e; simp [hp]
    · simp [e]
  · rw [keys_set]
    split
    · rfl
    · rw [List.filter_append]; simp [hp]
/-- What a command looks at stays, where another one does not matter to it. -/
theorem view_same {n m : Nat} {es : Dir} (O : DirOK n m es) {a b : Cmd} (h : pathsB a b = false) (hb : goodC b) : viewP (applyP es a).2 b = viewP es b := by
  rw [apply_step]
  simp only
  cases hf : (stepP a (viewP es a)).2 with
  | none => rfl
  | some g =>
    obtain ⟨ga, hk⟩ := step_edit hf
    obtain ⟨lb, pb, ub1, ub2, ub3, ub4, ub5, ub6⟩ := uses_good hb
    obtain ⟨la, pa, ua1, ua2, ua3, ua4, ua5, ua6⟩ := uses_good ga
    have hv : (a.path, 118) ∈ (usesP a).2 := by
      rcases hk with ⟨ho, hne⟩ | ⟨ho, _⟩
      · exact (ua6 ho hne).2.1
      · exact ua5 ho
    have cv := paths_clash h hv
    have hsame : (a.op = 3 ∨ a.op = 6) → ((a.op = 1 ∨ a.op = 2) → False) → ∃ v, g = some v ∧ a.path ∈ keys es := fun ho hn => by
      rcases hk with ⟨h1, _⟩ | ⟨_, ⟨v, e⟩, _, hm⟩
      · exact absurd h1 hn
      · exact ⟨v, e, hm⟩
    have hkeys : ((a.op = 1 ∨ a.op = 2) ∧ a.path ≠ [47]) ∨ keys (editP (some g) a.path es) = keys es := by
      rcases hk with h1 | ⟨_, ⟨v, rfl⟩, _, hm⟩
      · exact .inl h1
      · right
        show keys (aset a.path v es) = keys es
        rw [keys_set, if_pos hm]
    have hthere : ∀ q, (q ≠ a.path ∨ keys (editP (some g) a.path es) = keys es) → thereB (editP (some g) a.path es) q = thereB es q := fun q hq => by
      rcases hq with hq | hq
      · unfold thereB; rw [edit_get O.nodup hq]
      · rw [Bool.eq_iff_iff, thereB_iff, thereB_iff, hq]
    have hhere : thereB (editP (some g) a.path es) b.path = thereB es b.path := by
      apply hthere
      rcases hkeys with ⟨ho, hne⟩ | e
      · left
        intro e
        exact (paths_clash h (ua6 ho hne).1).1 (e ▸ ub1)
      · exact .inr e
    have hcur : (b.op = 3 ∨ b.op = 4 ∨ b.op = 6) → curP (editP (some g) a.path es) b.path = curP es b.path := fun ho => by
      have : b.path ≠ a.path := fun e => by
        rcases ub3 ho with h1 | h1
        · exact cv.1 (e ▸ h1)
        · exact cv.2 (e ▸ h1)
      unfold curP
      rw [edit_get O.nodup this]
    have hkids : (b.op = 2 ∨ b.op = 5) → childs (editP (some g) a.path es) b.path = childs es b.path := fun ho => by
      unfold childs
      rcases hkeys with ⟨hoa, hne⟩ | e
      · have hp : parentP a.path ≠ b.path := fun e => (paths_clash h (ua6 hoa hne).2.2).1 (e ▸ ub4 ho)
        rw [edit_keys O.nodup (fun k => decide (parentP k = b.path)) (by simp [hp])]
      · rw [e]
    have hup : b.op = 1 → thereB (editP (some g) a.path es) (parentP b.path) = thereB es (parentP b.path) := fun ho => by
      apply hthere
      rcases hkeys with ⟨hoa, hne⟩ | e
      · left
        intro e
        by_cases hr : b.path = [47]
        · have : parentP b.path = [] := (root_iff pb).2 hr
          rw [this] at e
          rw [← e, parse_nil] at pa
          cases pa
        · exact (paths_clash h (ua6 hoa hne).1).1 (e ▸ ub2 ho hr)
      · exact .inr e
    unfold viewP
    rw [hhere]
    have e1 : (if b.op = 3 ∨ b.op = 4 ∨ b.op = 6 then curP (editP (some g) a.path es) b.path else ([], 0)) = (if b.op = 3 ∨ b.op = 4 ∨ b.op = 6 then curP es b.path else ([], 0)) := by
      split
      · rename_i ho; exact hcur ho
      · rfl
    have e2 : (if b.op = 2 ∨ b.op = 5 then childs (editP (some g) a.path es) b.path else []) = (if b.op = 2 ∨ b.op = 5 then childs es b.path else []) := by
      split
      · rename_i ho; exact hkids ho
      · rfl
    have e3 : (if b.op = 1 then thereB (editP (some g) a.path es) (parentP b.path) else false) = (if b.op = 1 then thereB es (parentP b.path) else false) := by
      split
      · rename_i ho; exact hup ho
      · rfl
    rw [e1, e2, e3]
theorem edit_ok {n m : Nat} {es : Dir} (O : DirOK n m es) (c : Cmd) : (keys (applyP es c).2).Nodup := (applyP_ok O c).nodup
/-- Two that do not matter to each other do the same in either order. -/
theorem swaps_plain {n m : Nat} {es : Dir} (O : DirOK n m es) {a b : Cmd} (h : pathsB a b = false) :
    (applyP (applyP es b).2 a).1 = (applyP es a).1 ∧ (applyP (applyP es a).2 b).1 = (applyP es b).1 ∧ ∀ p, aget p (applyP (applyP es a).2 b).2 = aget p (applyP (applyP es b).2 a).2 := by
  have h' : pathsB b a = false := by rw [paths_comm]; exact h
  have sb : stepP b (viewP (applyP es a).2 b) = stepP b (viewP es b) := by
    by_cases g : goodC b
    · rw [view_same O h g]
    · exact step_bad g _ _
  have sa : stepP a (viewP (applyP es b).2 a) = stepP a (viewP es a) := by
    by_cases g : goodC a
    · rw [view_same O h' g]
    · exact step_bad g _ _
  have na := edit_ok O a
  have nb := edit_ok O b
  rw [apply_step (applyP es b).2 a, apply_step (applyP es a).2 b, sa, sb]
  refine ⟨by rw [apply_step es a], by rw [apply_step es b], fun p => ?_⟩
  simp only
  rw [apply_step es a, apply_step es b] at *
  simp only at na nb ⊢
  cases hfa : (stepP a (viewP es a)).2 with
  | none => simp only [editP]
  | some ga =>
    cases hfb : (stepP b (viewP es b)).2 with
    | none => simp only [editP]
    | some gb =>
      rw [hfa] at na
      rw [hfb] at nb
      obtain ⟨g1, k1⟩ := step_edit hfa
      obtain ⟨g2, k2⟩ := step_edit hfb
      obtain ⟨la, pa, ua1, ua2, ua3, ua4, ua5, ua6⟩ := uses_good g1
      obtain ⟨lb, pb, ub1, ub2, ub3, ub4, ub5, ub6⟩ := uses_good g2
      have hv : (a.path, 118) ∈ (usesP a).2 := by
        rcases k1 with ⟨ho, hne⟩ | ⟨ho, _⟩
        · exact (ua6 ho hne).2.1
        · exact ua5 ho
      have hw : (b.path, 118) ∈ (usesP b).2 := by
        rcases k2 with ⟨ho, hne⟩ | ⟨ho, _⟩
        · exact (ub6 ho hne).2.1
        · exact ub5 ho
      have hne : a.path ≠ b.path := fun e => (paths_clash h hv).2 (e ▸ hw)
      by_cases e1 : p = a.path
      · subst e1
        rw [edit_get na hne, edit_self O.nodup, edit_self nb]
      · rw [edit_get nb e1]
        by_cases e2 : p = b.path
        · subst e2
          rw [edit_self na, edit_self O.nodup]
        · rw [edit_get na e2, edit_get O.nodup e1, edit_get O.nodup e2]
end Go.DS

/-
  Sessions, plain: a directory, and clients that are answered once.
-/
namespace Go.DS
open Go
set_option linter.unusedVariables false
abbrev Seen := Int × Rep
abbrev Seens := List (Int × Seen)
structure Mach where
  d : Dir
  s : Seens
def big40 : Int := 1099511627776
def validB (c : Cmd) : Bool := decide (0 ≤ c.client) && decide (c.client ≤ 1099511627776) && decide (1 ≤ c.seq) && decide (c.seq ≤ 1099511627776)
def seenP (s : Seens) (k : Int) : Seen := (aget k s).getD (0, {})
/-- What a machine does. -/
def sessP (m : Mach) (c : Cmd) (ctl : Rep) : Rep × Mach :=
  if c.op = 0 then ({}, m)
  else if validB c = false then ({ err := 1 }, m)
  else if c.seq < (seenP m.s c.client).1 then ({ err := 6 }, m)
  else if (seenP m.s c.client).1 = c.seq then ((seenP m.s c.client).2, m)
  else if controlB c = true then (ctl, ⟨m.d, aset c.client (c.seq, ctl) m.s⟩)
  else ((applyP m.d c).1, ⟨(applyP m.d c).2, aset c.client (c.seq, (applyP m.d c).1) m.s⟩)
/-- All sessions. -/
def sessionsP (s : Seens) : Seens := (sortI (keys s)).map fun k => (k, (aget k s).getD (0, {}))
structure SessOK (n m : Nat) (x : Mach) : Prop where
  dir : DirOK n m x.d
  nodup : (keys x.s).Nodup
  len : x.s.length ≤ n
  seq : ∀ e ∈ x.s, 1 ≤ e.2.1 ∧ e.2.1 ≤ 1099511627776
  client : ∀ e ∈ x.s, 0 ≤ e.1 ∧ e.1 ≤ 1099511627776
  names : ∀ e ∈ x.s, e.2.2.names.length ≤ n ∧ e.2.2.err ≠ 6
theorem sessOK_nil (n m : Nat) : SessOK n m ⟨[], []⟩ := ⟨dirOK_nil n m, by simp [keys], by simp, by simp, by simp, by simp⟩
theorem SessOK.mono {n m n' m' : Nat} {x : Mach} (O : SessOK n m x) (hn : n ≤ n') (hm : m ≤ m') : SessOK n' m' x :=
  ⟨O.dir.mono hn hm, O.nodup, by have := O.len; omega, O.seq, O.client, fun e he => ⟨by have := (O.names e he).1; omega, (O.names e he).2⟩⟩
theorem mem_aset' {κ α : Type} [DecidableEq κ] {es : List (κ × α)} {p : κ} {v : α} {e : κ × α} (h : e ∈ aset p v es) : e = (p, v) ∨ e ∈ es := by
  induction es with
  | nil => simp [aset] at h; exact .inl h
  | cons x es ih =>
    simp only [aset] at h
    split at h
    · rcases List.mem_cons.1 h with h | h
      · exact .inl h
      · exact .inr (List.mem_cons_of_mem _ h)
    · rcases List.mem_cons.1 h with h | h
      · exact .inr (h ▸ List.mem_cons_self)
      · rcases ih h with h | h
        · exact .inl h
        · exact .inr (List.mem_cons_of_mem _ h)
theorem valid_iff' {c : Cmd} : validB c = true ↔ 0 ≤ c.client ∧ c.client ≤ 1099511627776 ∧ 1 ≤ c.seq ∧ c.seq ≤ 1099511627776 := by
  simp [validB, and_assoc]
theorem sess_set_ok {n m : Nat} {x : Mach} (O : SessOK n m x) {d : Dir} (hd : DirOK (n + 1) (m + 1) d) {c : Cmd} (hv : validB c = true) {r : Rep} (hr : r.names.length ≤ n ∧ r.err ≠ 6) : SessOK (n + 1) (m + 1) ⟨d, aset c.client (c.seq, r) x.s⟩ := by
  obtain ⟨v1, v2, v3, v4⟩ := valid_iff'.1 hv
  refine ⟨hd, nodup_set O.nodup, ?_, fun e he => ?_, fun e he => ?_, fun e he => ?_⟩
  · show (aset _ _ x.s).length ≤ _
    rw [len_set]; have := O.len; split <;> omega
  · rcases mem_aset' he with rfl | h
    · exact ⟨v3, v4⟩
    · exact O.seq e h
  · rcases mem_aset' he with rfl | h
    · exact ⟨v1, v2⟩
    · exact O.client e h
  · rcases mem_aset' he with rfl | h
    · exact ⟨by have := hr.1; simp only; omega, hr.2⟩
    · have := O.names e h; exact ⟨by omega, this.2⟩
theorem sess_ok {n m : Nat} {x : Mach} (O : SessOK n m x) (c : Cmd) {ctl : Rep} (hc : ctl.names.length ≤ n ∧ ctl.err ≠ 6) : SessOK (n + 1) (m + 1) (sessP x c ctl).2 := by
  have O' := O.mono (Nat.le_succ n) (Nat.le_succ m)
  unfold sessP
  split
  · exact O'
  · split
    · exact O'
    · rename_i hv
      have hv' : validB c = true := by simpa using hv
      split
      · exact O'
      · split
        · exact O'
        · split
          · exact sess_set_ok O (O.dir.mono (Nat.le_succ n) (Nat.le_succ m)) hv' hc
          · have := apply_names x.d c
            exact sess_set_ok O (applyP_ok O.dir c) hv' ⟨by have := O.dir.len; omega, this.2⟩
theorem seen_bounds {n m : Nat} {x : Mach} (O : SessOK n m x) (k : Int) : 0 ≤ (seenP x.s k).1 ∧ (seenP x.s k).1 ≤ 1099511627776 ∧ (seenP x.s k).2.names.length ≤ n ∧ (seenP x.s k).2.err ≠ 6 := by
  unfold seenP
  cases h : aget k x.s with
  | none => exact ⟨by simp, by simp, Nat.zero_le _, by simp⟩
  | some v =>
    have := aget_mem h
    have h1 := O.seq _ this
    have h2 := O.names _ this
    simp only [Option.getD_some] at h1 h2 ⊢
    exact ⟨by omega, h1.2, h2.1, h2.2⟩
theorem sess_names {n m : Nat} {x : Mach} (O : SessOK n m x) (c : Cmd) {ctl : Rep} (hc : ctl.names.length ≤ n) : (sessP x c ctl).1.names.length ≤ n := by
  unfold sessP
  repeat' split
  all_goals first | exact Nat.zero_le _ | exact (seen_bounds O _).2.2.1 | exact hc | exact Nat.le_trans (apply_names _ _).1 O.dir.len
/-- Many. -/
def sessAll (x : Mach) (l : List Cmd) (ctl : Rep) : Mach := l.foldl (fun x c => (sessP x c ctl).2) x
theorem sessAll_snoc (x : Mach) (l : List Cmd) (c : Cmd) (ctl : Rep) : sessAll x (l ++ [c]) ctl = (sessP (sessAll x l ctl) c ctl).2 := by simp [sessAll]
theorem sessAll_ok {n m : Nat} {x : Mach} {ctl : Rep} (hc : ctl.names.length ≤ n ∧ ctl.err ≠ 6) (O : SessOK n m x) : ∀ l : List Cmd, SessOK (n + l.length) (m + l.length) (sessAll x l ctl) := by
  intro l
  induction l generalizing n m x with
  | nil => exact O
  | cons c l ih =>
    have := ih ⟨by have := hc.1; omega, hc.2⟩ (sess_ok O c hc)
    have e : sessAll x (c :: l) ctl = sessAll (sessP x c ctl).2 l ctl := rfl
    rw [e]
    exact this.mono (by simp; omega) (by simp; omega)
/-- Sorted numbers. -/
theorem sortI_mem {l : List Int} {x : Int} : x ∈ sortI l ↔ x ∈ l := (List.mergeSort_perm l _).mem_iff
theorem sortI_pw (l : List Int) : (sortI l).Pairwise fun a b => a ≤ b := by
  have := List.pairwise_mergeSort (le := fun x y : Int => decide (x ≤ y)) (fun a b c h1 h2 => by simp only [decide_eq_true_eq] at *; omega) (fun a b => by simp only [Bool.or_eq_true, decide_eq_true_eq]; omega) l
  exact this.imp fun h => by simpa using h
theorem sortI_len (l : List Int) : (sortI l).length = l.length := by simp [sortI, List.length_mergeSort]
theorem sortI_nodup {l : List Int} (h : l.Nodup) : (sortI l).Nodup := (List.mergeSort_perm l _).nodup_iff.2 h
theorem sortI_eq {l m : List Int} (h : l.Perm m) : sortI l = sortI m :=
  List.Perm.eq_of_pairwise (fun a b _ _ h1 h2 => by omega) (sortI_pw l) (sortI_pw m) ((List.mergeSort_perm l _).trans (h.trans (List.mergeSort_perm m _).symm))
theorem sessions_len (s : Seens) : (sessionsP s).length = s.length := by simp [sessionsP, sortI_len, keys_len]
theorem sessions_keys (s : Seens) : keys (sessionsP s) = sortI (keys s) := by simp [sessionsP, keys, List.map_map, Function.comp_def]
/-- As one looks. -/
structure SameM (x y : Mach) : Prop where
  d : ∀ p, aget p x.d = aget p y.d
  s : ∀ k, aget k x.s = aget k y.s
theorem SameM.refl (x : Mach) : SameM x x := ⟨fun _ => rfl, fun _ => rfl⟩
theorem sessions_congr {s t : Seens} (hs : (keys s).Nodup) (ht : (keys t).Nodup) (h : ∀ k, aget k s = aget k t) : sessionsP s = sessionsP t := by
  have hk : ∀ p, p ∈ keys s ↔ p ∈ keys t := fun p => by rw [← aget_iff, ← aget_iff, h]
  have hp : (keys s).Perm (keys t) := by rw [List.perm_ext_iff_of_nodup hs ht]; exact hk
  unfold sessionsP
  rw [sortI_eq hp]
  exact List.map_congr_left fun k _ => by rw [h]
theorem SameM.rows {n m n' m' : Nat} {x y : Mach} (X : SessOK n m x) (Y : SessOK n' m' y) (h : SameM x y) : entriesP x.d = entriesP y.d ∧ sessionsP x.s = sessionsP y.s :=
  ⟨entries_congr X.dir Y.dir h.d, sessions_congr X.nodup Y.nodup h.s⟩
/-- A machine that has the same does the same. -/
theorem childs_congr {n m n' m' : Nat} {es es' : Dir} (O : DirOK n m es) (O' : DirOK n' m' es') (h : ∀ p, aget p es = aget p es') (p : Str) : childs es p = childs es' p := by
  have hk : ∀ p, p ∈ keys es ↔ p ∈ keys es' := fun p => by rw [← aget_iff, ← aget_iff, h]
  have hp : (keys es).Perm (keys es') := by rw [List.perm_ext_iff_of_nodup O.nodup O'.nodup]; exact hk
  have hq : (((keys es).filter fun k => decide (parentP k = p)).map lastP).Perm (((keys es').filter fun k => decide (parentP k = p)).map lastP) := (hp.filter _).map _
  exact sorted_eq (ordOK_cmp (sortC Lib.compareBytes (((keys es).filter fun k => decide (parentP k = p)).map lastP))) (fun x hx => hx) (sortC_pw (ordOK_cmp _) fun x hx => hx) (sortC_pw (ordOK_cmp _) fun x hx => hx) ((List.mergeSort_perm _ _).trans (hq.trans (List.mergeSort_perm _ _).symm))
theorem view_congr {n m n' m' : Nat} {es es' : Dir} (O : DirOK n m es) (O' : DirOK n' m' es') (h : ∀ p, aget p es = aget p es') (c : Cmd) : viewP es c = viewP es' c := by
  unfold viewP thereB curP
  rw [h, childs_congr O O' h, h]
theorem edit_congr {es es' : Dir} (hn : (keys es).Nodup) (hn' : (keys es').Nodup) (h : ∀ p, aget p es = aget p es') (f : Option (Option (Str × Int))) (p q : Str) : aget q (editP f p es) = aget q (editP f p es') := by
  unfold editP
  split
  · exact h q
  · rw [aget_del hn, aget_del hn', h]
  · rw [aget_set, aget_set, h]
theorem apply_congr {n m n' m' : Nat} {es es' : Dir} (O : DirOK n m es) (O' : DirOK n' m' es') (h : ∀ p, aget p es = aget p es') (c : Cmd) : (applyP es c).1 = (applyP es' c).1 ∧ ∀ p, aget p (applyP es c).2 = aget p (applyP es' c).2 := by
  rw [apply_step es, apply_step es', view_congr O O' h c]
  exact ⟨rfl, fun p => edit_congr O.nodup O'.nodup h _ _ _⟩
theorem sess_congr {n m n' m' : Nat} {x y : Mach} (X : SessOK n m x) (Y : SessOK n' m' y) (h : SameM x y) (c : Cmd) (ctl : Rep) : (sessP x c ctl).1 = (sessP y c ctl).1 ∧ SameM (sessP x c ctl).2 (sessP y c ctl).2 := by
  have hs : seenP x.s c.client = seenP y.s c.client := by unfold seenP; rw [h.s]
  have ha := apply_congr X.dir Y.dir h.d c
  unfold sessP
  rw [hs]
  split
  · exact ⟨rfl, h⟩
  · split
    · exact ⟨rfl, h⟩
    · split
      · exact ⟨rfl, h⟩
      · split
        · exact ⟨rfl, h⟩
        · split
          · exact ⟨rfl, h.d, fun k => by rw [aget_set, aget_set, h.s]⟩
          · exact ⟨ha.1, ha.2, fun k => by rw [aget_set, aget_set, h.s, ha.1]⟩
end Go.DS

/-
  Sessions, plain: what each law says.
-/
namespace Go.DS
open Go
set_option linter.unusedVariables false
theorem seen_set (s : Seens) (k j : Int) (v : Seen) : seenP (aset k v s) j = if j = k then v else seenP s j := by
  unfold seenP
  rw [aget_set]
  split <;> rfl
/-- What a command of a client does: nothing but answering, or doing it. -/
theorem sess_cases (x : Mach) (c : Cmd) (ctl : Rep) (ho : c.op ≠ 0) (hc : controlB c = false) :
    (∃ r, ∀ y : Mach, seenP y.s c.client = seenP x.s c.client → sessP y c ctl = (r, y)) ∨
    (∀ y : Mach, seenP y.s c.client = seenP x.s c.client → sessP y c ctl = ((applyP y.d c).1, ⟨(applyP y.d c).2, aset c.client (c.seq, (applyP y.d c).1) y.s⟩)) := by
  by_cases h1 : validB c = false
  · exact .inl ⟨{ err := 1 }, fun y _ => by simp only [sessP, ho, h1, if_true, if_false]⟩
  by_cases h2 : c.seq < (seenP x.s c.client).1
  · exact .inl ⟨{ err := 6 }, fun y e => by unfold sessP; rw [if_neg ho, if_neg h1, e, if_pos h2]⟩
  by_cases h3 : (seenP x.s c.client).1 = c.seq
  · exact .inl ⟨(seenP x.s c.client).2, fun y e => by unfold sessP; rw [if_neg ho, if_neg h1, e, if_neg h2, if_pos h3]⟩
  · refine .inr fun y e => ?_
    have h4 : ¬ controlB c = true := by simp [hc]
    unfold sessP; rw [if_neg ho, if_neg h1, e, if_neg h2, if_neg h3, if_neg h4]
theorem sess_swaps {n m : Nat} {x : Mach} (X : SessOK n m x) {a b : Cmd} (h : bothB a b = false) (ctl : Rep) :
    (sessP (sessP x b ctl).2 a ctl).1 = (sessP x a ctl).1 ∧ (sessP (sessP x a ctl).2 b ctl).1 = (sessP x b ctl).1 ∧ SameM (sessP (sessP x a ctl).2 b ctl).2 (sessP (sessP x b ctl).2 a ctl).2 := by
  by_cases ha : a.op = 0
  · have e : ∀ y, sessP y a ctl = ({}, y) := fun y => by simp only [sessP, ha, if_true]
    rw [e (sessP x b ctl).2, e x]; exact ⟨rfl, rfl, .refl _⟩
  by_cases hb : b.op = 0
  · have e : ∀ y, sessP y b ctl = ({}, y) := fun y => by simp only [sessP, hb, if_true]
    rw [e (sessP x a ctl).2, e x]; exact ⟨rfl, rfl, .refl _⟩
  have h0 : ¬ (a.op = 0 ∨ b.op = 0) := by simp [ha, hb]
  unfold bothB at h
  rw [if_neg h0] at h
  simp only [Bool.or_eq_false_iff, decide_eq_false_iff_not] at h
  obtain ⟨⟨⟨c1, c2⟩, c3⟩, c4⟩ := h
  have c3' : b.client ≠ a.client := fun e => c3 e.symm
  rcases sess_cases x a ctl ha c1 with ⟨ra, fa⟩ | fa
  · rcases sess_cases x b ctl hb c2 with ⟨rb, fb⟩ | fb
    · have e1 := fa x rfl
      have e2 := fb x rfl
      simp only [e1, e2]
      exact ⟨trivial, trivial, .refl _⟩
    · have e1 := fa x rfl
      have e2 := fb x rfl
      have e3 := fa ⟨(applyP x.d b).2, aset b.client (b.seq, (applyP x.d b).1) x.s⟩ (by simp only; rw [seen_set, if_neg c3])
      simp only [e1, e2, e3]
      exact ⟨trivial, trivial, .refl _⟩
  · rcases sess_cases x b ctl hb c2 with ⟨rb, fb⟩ | fb
    · have e1 := fa x rfl
      have e2 := fb x rfl
      have e3 := fb ⟨(applyP x.d a).2, aset a.client (a.seq, (applyP x.d a).1) x.s⟩ (by simp only; rw [seen_set, if_neg c3'])
      simp only [e1, e2, e3]
      exact ⟨trivial, trivial, .refl _⟩
    · obtain ⟨s1, s2, s3⟩ := swaps_plain X.dir c4
      have e1 := fa x rfl
      have e2 := fb x rfl
      have e3 := fa ⟨(applyP x.d b).2, aset b.client (b.seq, (applyP x.d b).1) x.s⟩ (by simp only; rw [seen_set, if_neg c3])
      have e4 := fb ⟨(applyP x.d a).2, aset a.client (a.seq, (applyP x.d a).1) x.s⟩ (by simp only; rw [seen_set, if_neg c3'])
      simp only [e1, e2, e3, e4]
      refine ⟨s1, s2, s3, fun k => ?_⟩
      simp only
      rw [aget_set, aget_set, aget_set, aget_set, s1, s2]
      by_cases e1 : k = a.client
      · subst e1; simp [c3]
      · simp [e1]
/-- A command, the first time. -/
theorem once_first {n m : Nat} {x : Mach} (X : SessOK n m x) {c : Cmd} {ctl : Rep} (hv : validB c = true) (ho : c.op ≠ 0) (hc : ctl.err ≠ 6) :
    ((sessP x c ctl).1.err = 6 ∧ (sessP x c ctl).2 = x ∧ c.seq < (seenP x.s c.client).1) ∨ ((sessP x c ctl).1.err ≠ 6 ∧ seenP (sessP x c ctl).2.s c.client = (c.seq, (sessP x c ctl).1) ∧ (seenP x.s c.client).1 ≤ c.seq) := by
  have hv' : ¬ validB c = false := by simp [hv]
  unfold sessP
  rw [if_neg ho, if_neg hv']
  split
  · rename_i h; exact .inl ⟨rfl, rfl, h⟩
  · rename_i h
    split
    · rename_i h2
      refine .inr ⟨(seen_bounds X c.client).2.2.2, ?_, by omega⟩
      simp only
      rw [← h2]
    · split
      · exact .inr ⟨hc, by simp only; rw [seen_set, if_pos rfl], by omega⟩
      · exact .inr ⟨(apply_names _ _).2, by simp only; rw [seen_set, if_pos rfl], by omega⟩
def sameClient (c d : Cmd) : Bool := decide (d.op ≠ 0) && validB d && decide (d.client = c.client)
def goneB (c d : Cmd) : Bool := sameClient c d && decide (c.seq < d.seq)
/-- What another command does to what was told a client. -/
theorem seen_step (y : Mach) (c d : Cmd) (ctl : Rep) :
    (sameClient c d = false ∧ seenP (sessP y d ctl).2.s c.client = seenP y.s c.client) ∨
    (sameClient c d = true ∧ d.seq ≤ (seenP y.s c.client).1 ∧ seenP (sessP y d ctl).2.s c.client = seenP y.s c.client) ∨
    (sameClient c d = true ∧ (seenP y.s c.client).1 < d.seq ∧ (seenP (sessP y d ctl).2.s c.client).1 = d.seq) := by
  by_cases ho : d.op = 0
  · left; exact ⟨by simp [sameClient, ho], by simp only [sessP, ho, if_true]⟩
  by_cases hv : validB d = false
  · left; exact ⟨by simp [sameClient, hv], by simp only [sessP, ho, hv, if_true, if_false]⟩
  have hv' : validB d = true := by simpa using hv
  by_cases hk : d.client = c.client
  · have hs : sameClient c d = true := by simp [sameClient, ho, hv', hk]
    right
    unfold sessP
    rw [if_neg ho, if_neg hv, hk]
    split
    · rename_i h; exact .inl ⟨hs, by omega, rfl⟩
    · split
      · rename_i h; exact .inl ⟨hs, by omega, rfl⟩
      · split
        · exact .inr ⟨hs, by omega, by simp only; rw [seen_set, if_pos rfl]⟩
        · exact .inr ⟨hs, by omega, by simp only; rw [seen_set, if_pos rfl]⟩
  · left
    refine ⟨by simp [sameClient, hk], ?_⟩
    have hk' : c.client ≠ d.client := fun e => hk e.symm
    unfold sessP
    rw [if_neg ho, if_neg hv]
    split
    · rfl
    · split
      · rfl
      · split
        · simp only; rw [seen_set, if_neg hk']
        · simp only; rw [seen_set, if_neg hk']
def OnceI (c : Cmd) (a : Rep) (g : Bool) (y : Mach) : Prop := (g = true → c.seq < (seenP y.s c.client).1) ∧ (g = false → seenP y.s c.client = (c.seq, a))
theorem once_step {c : Cmd} {a : Rep} {g : Bool} {y : Mach} (h : OnceI c a g y) (d : Cmd) (ctl : Rep) : OnceI c a (g || goneB c d) (sessP y d ctl).2 := by
  obtain ⟨h1, h2⟩ := h
  rcases seen_step y c d ctl with ⟨e1, e2⟩ | ⟨e1, e2, e3⟩ | ⟨e1, e2, e3⟩
  · have : goneB c d = false := by simp [goneB, e1]
    rw [this, Bool.or_false]
    exact ⟨fun hg => by rw [e2]; exact h1 hg, fun hg => by rw [e2]; exact h2 hg⟩
  · cases g with
    | true => exact ⟨fun _ => by rw [e3]; exact h1 rfl, fun hg => by simp at hg⟩
    | false =>
      have h3 := h2 rfl
      rw [h3] at e2
      have : goneB c d = false := by simp [goneB]; intro _; simpa using e2
      rw [this]
      exact ⟨fun hg => by simp at hg, fun _ => by rw [e3]; exact h3⟩
  · cases g with
    | true => exact ⟨fun _ => by rw [e3]; have := h1 rfl; omega, fun hg => by simp at hg⟩
    | false =>
      have h3 := h2 rfl
      rw [h3] at e2
      have : goneB c d = true := by simp only [goneB, e1, Bool.true_and, decide_eq_true_eq]; exact e2
      rw [this]
      exact ⟨fun _ => by rw [e3]; exact e2, fun hg => by simp at hg⟩
theorem once_last {c : Cmd} {a : Rep} {g : Bool} {y : Mach} (h : OnceI c a g y) {ctl : Rep} (hv : validB c = true) (ho : c.op ≠ 0) : sessP y c ctl = (if g = true then { err := 6 } else a, y) := by
  have hv' : ¬ validB c = false := by simp [hv]
  unfold sessP
  rw [if_neg ho, if_neg hv']
  cases g with
  | true => rw [if_pos (h.1 rfl)]; rfl
  | false =>
    have := h.2 rfl
    rw [this]
    simp
/-- The greatest number of a client. -/
def lastB (c : Cmd) (l : List Cmd) : Int := l.foldl (fun n d => if sameClient c d = true then max n d.seq else n) 0
theorem lastB_snoc (c : Cmd) (l : List Cmd) (d : Cmd) : lastB c (l ++ [d]) = if sameClient c d = true then max (lastB c l) d.seq else lastB c l := by simp [lastB]
theorem last_step {c : Cmd} {y : Mach} {n : Int} (h : (seenP y.s c.client).1 = n) (d : Cmd) (ctl : Rep) : (seenP (sessP y d ctl).2.s c.client).1 = if sameClient c d = true then max n d.seq else n := by
  rcases seen_step y c d ctl with ⟨e1, e2⟩ | ⟨e1, e2, e3⟩ | ⟨e1, e2, e3⟩
  · rw [e2, e1, h]; rfl
  · rw [e3, if_pos e1, h]; rw [h] at e2; omega
  · rw [e3, if_pos e1]; rw [h] at e2; omega
theorem last_all' (c : Cmd) (ctl : Rep) : ∀ (l : List Cmd) (x : Mach) (n : Int), (seenP x.s c.client).1 = n → (seenP (sessAll x l ctl).s c.client).1 = l.foldl (fun n d => if sameClient c d = true then max n d.seq else n) n
  | [], x, n, h => h
  | d :: l, x, n, h => by
    have e : sessAll x (d :: l) ctl = sessAll (sessP x d ctl).2 l ctl := rfl
    rw [e, List.foldl_cons]
    exact last_all' c ctl l _ _ (last_step h d ctl)
theorem last_all (c : Cmd) (ctl : Rep) (l : List Cmd) : (seenP (sessAll ⟨[], []⟩ l ctl).s c.client).1 = lastB c l := last_all' c ctl l _ _ rfl
/-- Its sessions make it again. -/
theorem aset_new' {κ α : Type} [DecidableEq κ] {k : κ} {v : α} {es : List (κ × α)} (h : k ∉ keys es) : aset k v es = es ++ [(k, v)] := by
  induction es with
  | nil => rfl
  | cons e es ih =>
    rw [keys_cons] at h
    have h1 : k ≠ e.1 := fun e' => h (e' ▸ List.mem_cons_self)
    simp only [aset, if_neg h1, ih (fun h' => h (List.mem_cons_of_mem _ h')), List.cons_append]
theorem aget_map' {κ α : Type} [DecidableEq κ] {ks : List κ} {f : κ → α} {p : κ} : aget p (ks.map fun k => (k, f k)) = if p ∈ ks then some (f p) else none := by
  induction ks with
  | nil => simp [aget]
  | cons k ks ih =>
    simp only [List.map_cons, aget, ih]
    by_cases h : p = k
    · subst h; simp
    · simp [h]
theorem sessions_get (s : Seens) (k : Int) : aget k (sessionsP s) = aget k s := by
  unfold sessionsP
  rw [aget_map']
  split
  · rename_i h
    rw [sortI_mem] at h
    obtain ⟨v, hv⟩ := Option.isSome_iff_exists.1 (aget_iff.2 h)
    simp [hv]
  · rename_i h
    rw [sortI_mem] at h
    exact (aget_none.2 h).symm
theorem sessions_mem {s : Seens} {e : Int × Seen} (h : e ∈ sessionsP s) : e ∈ s := by
  unfold sessionsP at h
  obtain ⟨k, hk, rfl⟩ := List.mem_map.1 h
  obtain ⟨v, hv⟩ := Option.isSome_iff_exists.1 (aget_iff.2 (sortI_mem.1 hk))
  rw [hv]; exact aget_mem hv
theorem sessions_lt {s : Seens} (h : (keys s).Nodup) : (keys (sessionsP s)).Pairwise fun a b => a < b := by
  rw [sessions_keys]
  refine ((sortI_pw (keys s)).and (sortI_nodup h)).imp fun ⟨h1, h2⟩ => ?_
  have : _ ≠ _ := h2
  omega
theorem sessions_ok {n m : Nat} {x : Mach} (O : SessOK n m x) : SessOK n m ⟨entriesP x.d, sessionsP x.s⟩ :=
  ⟨entries_ok O.dir, by rw [sessions_keys]; exact sortI_nodup O.nodup, by rw [sessions_len]; exact O.len, fun e he => O.seq e (sessions_mem he), fun e he => O.client e (sessions_mem he), fun e he => O.names e (sessions_mem he)⟩
theorem sessions_same (x : Mach) : SameM x ⟨entriesP x.d, sessionsP x.s⟩ := ⟨fun p => (entries_get x.d p).symm, fun k => (sessions_get x.s k).symm⟩
end Go.DS

/-
  What the session laws say, in plain Lean.
-/
namespace Go.DS
open Go Go.Proofs
set_option linter.unusedVariables false
set_option linter.unusedSimpArgs false
def goneAll (c : Cmd) (g : Bool) (l : List Cmd) : Bool := l.foldl (fun g d => g || goneB c d) g
theorem goneAll_snoc (c : Cmd) (g : Bool) (l : List Cmd) (d : Cmd) : goneAll c g (l ++ [d]) = (goneAll c g l || goneB c d) := by simp [goneAll]
theorem once_all {c : Cmd} {a : Rep} (ctl : Rep) : ∀ (l : List Cmd) (g : Bool) (y : Mach), OnceI c a g y → OnceI c a (goneAll c g l) (sessAll y l ctl)
  | [], g, y, h => h
  | d :: l, g, y, h => by
    have e1 : sessAll y (d :: l) ctl = sessAll (sessP y d ctl).2 l ctl := rfl
    have e2 : goneAll c g (d :: l) = goneAll c (g || goneB c d) l := rfl
    rw [e1, e2]
    exact once_all ctl l _ _ (once_step h d ctl)
theorem once_start {n m : Nat} {x : Mach} (X : SessOK n m x) {c : Cmd} {ctl : Rep} (hv : validB c = true) (ho : c.op ≠ 0) (hc : ctl.err ≠ 6) :
    OnceI c (sessP x c ctl).1 (decide ((sessP x c ctl).1.err = 6)) (sessP x c ctl).2 := by
  rcases once_first X hv ho hc with ⟨h1, h2, h3⟩ | ⟨h1, h2, h3⟩
  · refine ⟨fun _ => ?_, fun h => ?_⟩
    · rw [h2]; exact h3
    · simp [h1] at h
  · refine ⟨fun h => ?_, fun _ => h2⟩
    simp [h1] at h
theorem old_iff {n m : Nat} {x : Mach} (X : SessOK n m x) {c : Cmd} {ctl : Rep} (hv : validB c = true) (ho : c.op ≠ 0) (hc : ctl.err ≠ 6) :
    ((sessP x c ctl).1.err = 6) ↔ c.seq < (seenP x.s c.client).1 := by
  rcases once_first X hv ho hc with ⟨h1, h2, h3⟩ | ⟨h1, h2, h3⟩
  · exact ⟨fun _ => h3, fun _ => h1⟩
  · exact ⟨fun h => absurd h h1, fun h => by omega⟩
theorem seen_other (y : Mach) {d : Cmd} {k : Int} (h : d.client ≠ k) (ctl : Rep) : seenP (sessP y d ctl).2.s k = seenP y.s k := by
  have hs : sameClient { d with client := k } d = false := by simp [sameClient, h]
  rcases seen_step y { d with client := k } d ctl with ⟨_, e⟩ | ⟨e, _⟩ | ⟨e, _⟩
  · exact e
  · rw [hs] at e; cases e
  · rw [hs] at e; cases e
theorem same_self {c : Cmd} (hv : validB c = true) (ho : c.op ≠ 0) : sameClient c c = true := by simp [sameClient, hv, ho]
/-- The number of a client, as the law looks for it. -/
def seqAll (k : Int) (l : Seens) : Int := l.foldl (fun n e => if e.1 = k then e.2.1 else n) 0
theorem seqAll_snoc (k : Int) (l : Seens) (e : Int × Seen) : seqAll k (l ++ [e]) = if e.1 = k then e.2.1 else seqAll k l := by simp [seqAll]
theorem seqAll_not (k : Int) : ∀ (l : Seens) (n : Int), k ∉ keys l → l.foldl (fun n e => if e.1 = k then e.2.1 else n) n = n
  | [], n, _ => rfl
  | e :: l, n, h => by
    have h1 : e.1 ≠ k := fun h2 => h (by simp [keys, h2])
    have h2 : k ∉ keys l := fun h3 => h (by simp only [keys, List.map_cons, List.mem_cons]; exact .inr h3)
    rw [List.foldl_cons, if_neg h1]
    exact seqAll_not k l n h2
theorem seqAll_eq (k : Int) : ∀ (l : Seens) (n : Int), (keys l).Nodup → l.foldl (fun n e => if e.1 = k then e.2.1 else n) n = ((aget k l).map (·.1)).getD n
  | [], n, _ => rfl
  | e :: l, n, h => by
    simp only [keys, List.map_cons, List.nodup_cons] at h
    rw [List.foldl_cons]
    by_cases h1 : e.1 = k
    · subst h1
      rw [if_pos rfl, seqAll_not _ _ _ h.1]
      simp [aget]
    · rw [if_neg h1, seqAll_eq k l n h.2]
      have h2 : ¬ k = e.1 := fun h => h1 h.symm
      simp [aget, h2]
theorem seqAll_seen {s : Seens} (h : (keys s).Nodup) (k : Int) : seqAll k (sessionsP s) = (seenP s k).1 := by
  have hn : (keys (sessionsP s)).Nodup := by
    rw [sessions_keys]
    exact sortI_nodup h
  have := seqAll_eq k (sessionsP s) 0 hn
  rw [sessions_get] at this
  unfold seqAll seenP
  rw [this]
  cases aget k s <;> rfl
/-- Those of other clients than 77. -/
def rdAll (x : Mach) (l : List Cmd) : Mach := l.foldl (fun x c => if c.client = 77 then x else (sessP x c {}).2) x
theorem rdAll_snoc (x : Mach) (l : List Cmd) (c : Cmd) : rdAll x (l ++ [c]) = if c.client = 77 then rdAll x l else (sessP (rdAll x l) c {}).2 := by simp [rdAll]
theorem rdAll_ok : ∀ (l : List Cmd) {n m : Nat} {x : Mach}, SessOK n m x → SessOK (n + l.length) (m + l.length) (rdAll x l)
  | [], n, m, x, O => O
  | c :: l, n, m, x, O => by
    have e : rdAll x (c :: l) = rdAll (if c.client = 77 then x else (sessP x c {}).2) l := rfl
    rw [e, List.length_cons, show n + (l.length + 1) = n + 1 + l.length by omega, show m + (l.length + 1) = m + 1 + l.length by omega]
    apply rdAll_ok l
    split
    · exact O.mono (by omega) (by omega)
    · exact sess_ok O c ⟨Nat.zero_le _, by simp⟩
theorem rdAll_seen : ∀ (l : List Cmd) (x : Mach), seenP (rdAll x l).s 77 = seenP x.s 77
  | [], x => rfl
  | c :: l, x => by
    have e : rdAll x (c :: l) = rdAll (if c.client = 77 then x else (sessP x c {}).2) l := rfl
    rw [e, rdAll_seen l]
    split
    · rfl
    · rename_i h; exact seen_other x h {}
def get77 (p : Str) : Cmd := ⟨77, 1, 4, p, [], 0, 0, 0⟩
theorem apply_get77 (es : Dir) (p : Str) : applyP es (get77 p) = (getR es p, es) := by
  rw [← apply_get]
  rfl
theorem sess_get77 {x : Mach} (h : seenP x.s 77 = (0, {})) (p : Str) : sessP x (get77 p) {} = (getR x.d p, ⟨x.d, aset 77 (1, getR x.d p) x.s⟩) := by
  have ha := apply_get77 x.d p
  unfold get77 at *
  unfold sessP
  rw [h]
  simp [validB, controlB, ha]
theorem entries_getR {n m : Nat} {es : Dir} (O : DirOK n m es) {e : Str × Str × Int} (he : e ∈ entriesP es) : getR es e.1 = { value := e.2.1, version := e.2.2 } := by
  obtain ⟨p, hp, rfl⟩ := List.mem_map.1 he
  rw [sortC_mem'] at hp
  obtain ⟨l, hl, h0⟩ := O.path p hp
  exact getR_there hl (thereB_iff.2 (.inl hp))
end Go.DS

/-
  Walks: dir.Of.
-/
namespace Go.DS
open Go Go.Proofs
set_option maxRecDepth 100000
set_option linter.unusedVariables false
set_option linter.unusedSimpArgs false
def cd38 : Cd := .seq (R [c0 2 (.tk (.c (.sc (.pointer none)))), c0 3 (.tk (.c (ki .i64 0)))] [0, 6]) (.seq (R [c0 7 (.call none (.c (kf 31)) []), c0 4 (.tk (.s 7))] [0, 4, 6]) (.seq (.seq (R [c0 8 (.mv (.s 0)), c0 9 (.len 1 (.s 8)), c0 10 (.mv (.c (ki .i64 0)))] [0, 4, 6, 8, 9, 10]) (.block 0 (LP [0, 4, 6, 8, 9, 10] (.seq (R [c0 11 (.bin .lss .any (.s 10) (.s 9))] [0, 4, 6, 8, 9, 10, 11]) (.seq (.ite (.s 11) (.skip) (.exit 0)) (.seq (.block 1 (.seq (R [c0 12 (.tk (.s 10)), c0 13 (.ixp 3 (.s 8) (.s 10)), c0 14 (.ldx false true 3 (.s 13)), c0 6 (.new false (.c (.agg [ks [], ks [], ki .i64 0]))), c0 5 (.tk (.s 12)), cn (.st 3 (.s 6) (.s 14))] [0, 4, 5, 6, 8, 9, 10]) (.seq (.seq (RD (cd (some 15) false none (.mov 0 (.s 6)) false false [6] :: cd (some 16) false none (.ld false 1 (.s 15)) false false [15] :: cd (some 17) false none (.call none (.c (kf 65)) [(.s 16)]) false false [16] :: cd (some 18) true none (.bin .lss .any (.s 17) (.c (ki .i64 1))) false false [17] :: cd (some 19) true none (.mv (.s 18)) false false [18] :: cd (some 20) false (some (19, false)) (.mov 1 (.s 6)) false false [6] :: cd (some 21) false (some (19, false)) (.ld false 1 (.s 20)) false false [20] :: cd (some 22) false (some (19, false)) (.len 0 (.s 21)) false false [21] :: cd (some 23) true (some (19, false)) (.bin .gtr .any (.s 22) (.c (ki .i64 64))) false false [22] :: cd (some 24) true none (.pick (.s 19) (.c (kb true)) (.s 23)) false false [19, 23] :: cd (some 25) true none (.mv (.s 24)) false false [24] :: cd (some 26) false (some (25, false)) (.mov 2 (.s 6)) false false [6] :: cd (some 27) false (some (25, false)) (.ld false 1 (.s 26)) false false [26] :: cd (some 28) true (some (25, false)) (.bin .lss .any (.s 27) (.c (ki .i64 1))) false false [27] :: cd (some 29) true none (.pick (.s 25) (.c (kb true)) (.s 28)) false false [25, 28] :: cd (some 30) true none (.mv (.s 29)) false false [29] :: cd (some 31) false (some (30, false)) (.mv (.s 5)) false false [5] :: cd (some 32) true (some (30, false)) (.bin .gtr .any (.s 31) (.c (ki .i64 0))) false false [31] :: cd (some 33) true (some (30, false)) (.mv (.s 32)) false false [32] :: cd (some 34) false (some (33, true)) (.mv (.s 0)) false false [0] :: cd (some 35) false (some (33, true)) (.mv (.s 5)) false false [5] :: cd (some 36) false (some (33, true)) (.bin .sub .any (.s 35) (.c (ki .i64 1))) false false [35] :: cd (some 37) false (some (33, true)) (.ixp 3 (.s 34) (.s 36)) false false [34, 36] :: cd (some 38) false (some (33, true)) (.mov 0 (.s 37)) false false [37] :: cd (some 39) false (some (33, true)) (.ld false 1 (.s 38)) false false [38] :: cd (some 40) false (some (33, true)) (.mov 0 (.s 6)) false false [6] :: cd (some 41) false (some (33, true)) (.ld false 1 (.s 40)) false false [40] :: cd (some 42) true (some (33, true)) (.call none (.c (kf 66)) [(.s 39), (.s 41)]) false false [39, 41] :: cd (some 43) true (some (33, true)) (.un .not (.s 42)) false false [42] :: cd (some 44) true (some (30, false)) (.pick (.s 33) (.s 43) (.c (kb false))) false false [33, 43] :: cd (some 45) true none (.pick (.s 30) (.c (kb true)) (.s 44)) false false [30, 44] :: cd (some 46) true none (.mv (.s 45)) false false [45] :: cd (some 47) false (some (46, false)) (.mv (.s 4)) false false [4] :: cd (some 48) false (some (46, false)) (.mov 0 (.s 6)) false false [6] :: cd (some 49) false (some (46, false)) (.ld false 1 (.s 48)) false false [48] :: cd (some 50) false (some (46, false)) (.call none (.c (kf 67)) [(.s 49)]) false false [49] :: cd (some 51) true (some (46, false)) (.call none (.c (kf 62)) [(.s 47), (.s 50)]) false false [47, 50] :: cd (some 52) true (some (46, false)) (.un .not (.s 51)) false false [51] :: cd (some 53) true none (.pick (.s 46) (.c (kb true)) (.s 52)) false false [46, 52] :: []) [0, 4, 6, 8, 9, 10, 53] []) (.ite (.s 53) (.seq (R [c0 2 (.tk (.c (.sc (.pointer none)))), c0 3 (.tk (.c (ki .i64 1)))] [2, 3, 6]) (.ret)) (.skip))) (RD [cd (some 54) false none (.mv (.s 4)) false false [4], cd (some 55) false none (.mov 0 (.s 54)) false false [54], cd (some 56) false none (.mov 0 (.s 55)) false false [55], cd (some 57) false none (.ld false 1 (.s 56)) false false [56], cd (some 58) false none (.mov 0 (.s 6)) false false [6], cd (some 59) false none (.ld false 1 (.s 58)) false false [58], cd (some 60) false none (.mov 1 (.s 6)) false false [6], cd (some 61) false none (.ld false 1 (.s 60)) false false [60], cd (some 62) false none (.mov 2 (.s 6)) false false [6], cd (some 63) false none (.ld false 1 (.s 62)) false false [62], cd (some 64) false none (.bld [ks [], ki .i64 0] [(0, 1, (.s 61)), (1, 1, (.s 63))]) false false [61, 63], cd none false none (.mup [2] false 1 (.s 57) (.s 59) (.s 64)) false false [57, 59, 64]] [0, 4, 6, 8, 9, 10] [])))) (R [c0 65 (.bin .add .any (.s 10) (.c (ki .i64 1))), c0 10 (.mv (.s 65))] [0, 4, 6, 8, 9, 10]))))))) (.seq (R [c0 66 (.tk (.s 4)), c0 2 (.tk (.s 66)), c0 3 (.tk (.c (ki .i64 0)))] [2, 3, 6]) (.ret))))
theorem fun38 : Fun Tryz.prog cfg 38 67 cd38 [.s 2, .s 3] := ⟨rfl, Tryz.f38, _, Tryz.func38, rfl, rfl, by kernel_rfl, by kernel_rfl⟩
@[go_sem] theorem ok38 : calleeOK Tryz.prog 38 = true := by kernel_rfl
@[go_sem] theorem ex38 : (cfg.ext 38).isSome = false := rfl
variable {h : DHeap}
theorem wp_aside' {P : Program} {C : Cfg} {n : Nat} {c : Cd} {a : AF} {h : DHeap} {Q : XD → AF → DHeap → Prop} (H : ∀ Q' : XD → AF → DHeap → Prop, (∀ e a h, Q e a h → Q' e a h) → WP P C n c a h Q') : WP P C n c a h Q := H Q fun _ _ _ q => q
def badE (prev : Option Str) (e : Ent) (es : Dir) : Bool :=
  decide (depthP e.1 < 1) || decide (64 < e.2.1.length) || decide (e.2.2 < 1) || (match prev with | some q => !lessP q e.1 | none => false) || !thereB es (parentP e.1)
/-- The directory of entries; or where it stopped. -/
def dirOfP : Option Str → List Ent → Dir → Bool × Dir
  | _, [], es => (true, es)
  | prev, e :: l, es => if badE prev e es = true then (false, es) else dirOfP (some e.1) l (aset e.1 e.2 es)
def prevE (l : List Ent) (k : Nat) : Option Str := if k = 0 then none else (l[k - 1]?).map (·.1)
def ofV7 (n : Nat) (b : Bool) : DV := if b = true then .tup [.ptr (n + 1) 0, vi 0] else .tup [.sc (.pointer none), vi 1]
theorem atNew (h : DHeap) (es : Dir) : At (h ++ [dirM es] ++ [.cells [.mp h.length]]) (h.length + 1) h.length es :=
  ⟨by simp, by rw [List.append_assoc, List.getElem?_append_right (Nat.le_refl _)]; simp⟩
theorem setNew (h : DHeap) (es es' : Dir) : (h ++ [dirM es] ++ [DObj.cells [.mp h.length]]).set h.length (dirM es') = h ++ [dirM es'] ++ [.cells [.mp h.length]] := by
  rw [List.append_assoc, List.set_append]; simp
theorem prevE_succ (l : List Ent) (k : Nat) (hk : k < l.length) : prevE l (k + 1) = some l[k].1 := by simp [prevE, hk]
section
attribute [-go_sem] wp_RD
set_option maxHeartbeats 8000000 in
theorem dof_lim (own : Bool) (l : List Ent) (hl : l.length ≤ 1048576) (hs : ∀ e ∈ l, e.1.length ≤ 1048576) :
    lim Tryz.prog cfg 38 [.list own 3 (eds l)] h = some (ofV7 h.length (dirOfP none l []).1, h ++ [dirM (dirOfP none l []).2] ++ [.cells [.mp h.length]]) := by
  refine lim_fun fun38 rfl (by simp) (by unfold ofV7; split <;> rfl) ?_
  delta cd38
  have q1 := new_lim (h := h)
  simp -implicitDefEqProofs -dsimp only [go_sem, q1]
  refine wp_for (σ := Nat × Dir × DV) (fun s => [(0, .list false 3 (eds l)), (4, .ptr (h.length + 1) 0), (6, s.2.2), (8, .list false 3 (eds l)), (9, vi (l.length : Nat)), (10, vi (s.1 : Nat))]) (fun s => h ++ [dirM s.2.1] ++ [.cells [.mp h.length]]) (fun s => l.length - s.1)
    (fun s => s.1 ≤ l.length ∧ dirOfP none l [] = dirOfP (prevE l s.1) (l.drop s.1) s.2.1 ∧ (s.2.2 = .junk ∨ ∃ cs, s.2.2 = .box cs)) (0, [], .junk) ⟨Nat.zero_le _, rfl, .inl rfl⟩ rfl rfl ?_
  rintro ⟨k, es, z⟩ ⟨hk, hj, hz⟩ N hN
  simp only at hk hj hz hN ⊢
  have HA := atNew h es
  by_cases hlt : k < l.length
  · have h1 : (k : Int) < (l.length : Int) := by omega
    have hd : l.drop k = l[k] :: l.drop (k + 1) := List.drop_eq_getElem_cons hlt
    have hle := hs _ (List.getElem_mem hlt)
    rw [hd, dirOfP] at hj
    have t1 := depth_lim (h := h ++ [dirM es] ++ [.cells [.mp h.length]]) l[k].1 (by omega)
    have t2 := parent_lim (h := h ++ [dirM es] ++ [.cells [.mp h.length]]) l[k].1 (by omega)
    have t3 := there_lim HA (parentP l[k].1)
    have t4 : ∀ q : Str, q.length ≤ 1048576 → lim Tryz.prog cfg 66 [vs q, vs l[k].1] (h ++ [dirM es] ++ [.cells [.mp h.length]]) = some (vb (lessP q l[k].1), h ++ [dirM es] ++ [.cells [.mp h.length]]) := fun q hq => less_lim q l[k].1 (by omega) (by omega)
    have hw : dirOfP none l [] = if badE (prevE l k) l[k] es = true then (false, es) else dirOfP (some l[k].1) (l.drop (k + 1)) (aset l[k].1 l[k].2 es) := hj
    clear hj
    generalize hv : dirOfP none l [] = dd at *
    simp -implicitDefEqProofs -dsimp only [go_sem, h1, hlt]
    refine wp_aside' fun Q hQ => ?_
    suffices hq : Q .normal [(0, .list false 3 (eds l)), (4, .ptr (h.length + 1) 0), (6, .box [vs l[k].1, vs l[k].2.1, vi l[k].2.2]), (8, .list false 3 (eds l)), (9, vi (l.length : Nat)), (10, vi (k : Nat)), (53, vb (badE (prevE l k) l[k] es))] (h ++ [dirM es] ++ [.cells [.mp h.length]]) by
      by_cases b1 : depthP l[k].1 < 1
      · have hb : badE (prevE l k) l[k] es = true := by simp [badE, b1]
        rw [hb] at hq
        simp -implicitDefEqProofs -dsimp only [go_sem, wp_RD, t1, b1]
        exact hq
      by_cases b2 : (64 : Int) < (l[k].2.1.length : Int)
      · have hb : badE (prevE l k) l[k] es = true := by
          have : 64 < l[k].2.1.length := by omega
          simp [badE, this]
        rw [hb] at hq
        simp -implicitDefEqProofs -dsimp only [go_sem, wp_RD, t1, b1, b2]
        exact hq
      by_cases b3 : l[k].2.2 < 1
      · have hb : badE (prevE l k) l[k] es = true := by simp [badE, b3]
        rw [hb] at hq
        simp -implicitDefEqProofs -dsimp only [go_sem, wp_RD, t1, b1, b2, b3]
        exact hq
      have b2' : ¬ 64 < l[k].2.1.length := by omega
      by_cases b4 : k = 0
      · have b4' : ¬ (0 : Int) < (k : Int) := by omega
        have hp : prevE l k = none := by simp [prevE, b4]
        cases b6 : thereB es (parentP l[k].1) with
        | false =>
          have hb : badE (prevE l k) l[k] es = true := by simp [badE, b6]
          rw [hb] at hq
          rw [b6] at t3
          simp -implicitDefEqProofs -dsimp only [go_sem, wp_RD, t1, t2, t3, b1, b2, b3, b4']
          exact hq
        | true =>
          have hb : badE (prevE l k) l[k] es = false := by simp [badE, b6, b1, b2', b3, hp]
          rw [hb] at hq
          rw [b6] at t3
          simp -implicitDefEqProofs -dsimp only [go_sem, wp_RD, t1, t2, t3, b1, b2, b3, b4']
          exact hq
      · obtain ⟨q, rfl⟩ : ∃ q, k = q + 1 := ⟨k - 1, by omega⟩
        have b4' : (0 : Int) < ((q + 1 : Nat) : Int) := by omega
        have hk1 : q < l.length := by omega
        have hp : prevE l (q + 1) = some l[q].1 := prevE_succ l q hk1
        have hwp : IntKind.wrap .i64 (((q + 1 : Nat) : Int) - 1) = ((q : Nat) : Int) := by rw [wrap64 (by omega) (by omega)]; omega
        have t5 := t4 l[q].1 (hs _ (List.getElem_mem hk1))
        cases b5 : lessP l[q].1 l[q + 1].1 with
        | false =>
          have hb : badE (prevE l (q + 1)) l[q + 1] es = true := by simp [badE, hp, b5]
          rw [hb] at hq
          rw [b5] at t5
          simp -implicitDefEqProofs -dsimp (maxSteps := 600000) only [go_sem, wp_RD, t1, t2, t3, t5, b1, b2, b3, b4', hwp, hk1]
          exact hq
        | true =>
          rw [b5] at t5
          cases b6 : thereB es (parentP l[q + 1].1) with
          | false =>
            have hb : badE (prevE l (q + 1)) l[q + 1] es = true := by simp [badE, b6]
            rw [hb] at hq
            rw [b6] at t3
            simp -implicitDefEqProofs -dsimp (maxSteps := 600000) only [go_sem, wp_RD, t1, t2, t3, t5, b1, b2, b3, b4', hwp, hk1]
            exact hq
          | true =>
            have hb : badE (prevE l (q + 1)) l[q + 1] es = false := by simp [badE, b6, b1, b2', b3, hp, b5]
            rw [hb] at hq
            rw [b6] at t3
            simp -implicitDefEqProofs -dsimp (maxSteps := 600000) only [go_sem, wp_RD, t1, t2, t3, t5, b1, b2, b3, b4', hwp, hk1]
            exact hq
    refine hQ _ _ _ ?_
    have hm := HA.map
    have ho := HA.obj
    have h4 := set_amap (V := entV) eqK_str l[k].1 l[k].2 es
    cases hb : badE (prevE l k) l[k] es with
    | true =>
      rw [hb, if_pos rfl] at hw
      subst hw
      simp -implicitDefEqProofs -dsimp only [go_sem, wp_RD]
      rfl
    | false =>
      rw [hb, if_neg (by simp)] at hw
      simp -implicitDefEqProofs -dsimp only [go_sem, wp_RD, ho, hm, h4, setNew]
      refine hN (k + 1, aset l[k].1 l[k].2 es, .box [vs l[k].1, vs l[k].2.1, vi l[k].2.2]) _ (by simp only; omega) ⟨by simp only; omega, by rw [hw, prevE_succ l k hlt], .inr ⟨_, rfl⟩⟩ ?_
      simp -implicitDefEqProofs -dsimp only [go_sem, wrap_succ (show k < 9223372036854775807 by omega)]
  · have h1 : ¬ (k : Int) < (l.length : Int) := by omega
    have : k = l.length := by omega
    subst this
    rw [List.drop_length, dirOfP] at hj
    rw [hj]
    rcases hz with rfl | ⟨cs, rfl⟩ <;> simp -implicitDefEqProofs -dsimp only [go_sem, h1]
    all_goals rfl
end
end Go.DS

/-
  Walks: syndiclaw07.works.
-/
namespace Go.DS
open Go Go.Proofs
set_option maxRecDepth 100000
set_option linter.unusedVariables false
set_option linter.unusedSimpArgs false
variable {h : DHeap}
theorem parse_a : parse [47, 97] = some [[97]] := parse_pathOf (l := [[97]]) (by decide)
theorem parse_r : parse [47] = some [] := parse_root
theorem names_a : namesP [47, 97] = [[97]] := by simp [namesP, parse_a]
theorem parent_a : parentP [47, 97] = [47] := by simp [parentP, names_a, pathOf, join_nil]
theorem last_a : lastP [47, 97] = [97] := by simp [lastP, names_a]
abbrev cA : Cmd := ⟨0, 0, 1, [47, 97], [120], 0, 0, 0⟩
abbrev cB : Cmd := ⟨0, 0, 3, [47, 97], [121], 0, 0, 0⟩
abbrev cC : Cmd := ⟨0, 0, 5, [47], [], 0, 0, 0⟩
theorem apply_a : applyP [] cA = ({ version := 1 }, [([47, 97], ([120], 1))]) := by
  simp [applyP, rightB, parse_a, createP, thereB, aget, parent_a, aset]
theorem apply_b : applyP [([47, 97], ([120], 1))] cB = ({ version := 2 }, [([47, 97], ([121], 2))]) := by
  simp [applyP, rightB, parse_a, setR, thereB, aget, curP, aset]
theorem childs_a : childs [([47, 97], ([121], 2))] [47] = [[97]] := by
  simp [childs, keys, parent_a, last_a, sortC]
theorem apply_c : applyP [([47, 97], ([121], 2))] cC = ({ names := [[97]] }, [([47, 97], ([121], 2))]) := by
  simp [applyP, rightB, parse_r, thereB, childs_a]
theorem entries_a : entriesP [([47, 97], ([121], 2))] = [([47, 97], ([121], 2))] := by
  simp [entriesP, keys, sortC, aget]
theorem depth_a : depthP [47, 97] = 1 := by simp [depthP, parse_a]
theorem of_a : dirOfP none [([47, 97], ([121], 2))] [] = (true, [([47, 97], ([121], 2))]) := by
  simp [dirOfP, badE, depth_a, thereB, parent_a, aset]
abbrev esA : Dir := [([47, 97], ([120], 1))]
abbrev esB : Dir := [([47, 97], ([121], 2))]
abbrev hD (es : Dir) : DHeap := [dirM es, .cells [.mp 0]]
theorem atD (es : Dir) : At (hD es) 1 0 es := ⟨rfl, rfl⟩
theorem hbD (es : Dir) : HB (hD es) := by
  unfold HB
  simp only [List.all_cons, List.all_nil, below_dir, Bool.and_true, Bool.true_and]
  rfl
theorem okA : DirOK 1 1 esA := by
  have := applyP_ok (dirOK_nil 0 0) cA
  rw [apply_a] at this
  exact this
theorem okB : DirOK 2 2 esB := by
  have := applyP_ok okA cB
  rw [apply_b] at this
  exact this
theorem new0 : lim Tryz.prog cfg 31 [] [] = some (.ptr 1 0, hD []) := new_lim
theorem applyD {n m : Nat} {es : Dir} (O : DirOK n m es) (hn : n ≤ 1048576) (hm : m ≤ 4611686018427387904) (c : Cmd) (hp : c.path.length ≤ 1099511627776) :
    lim Tryz.prog cfg 34 [.ptr 1 0, cmdD c] (hD es) = some (repD (applyP es c).1, hD (applyP es c).2) :=
  apply_lim (atD es) O (hbD es) hn hm c hp
end Go.DS

/-
  The directory, plain: its entries make it again.
-/
namespace Go.DS
open Go
set_option linter.unusedVariables false
theorem dirOf_go {n m : Nat} {es : Dir} (O : DirOK n m es) : ∀ (l acc : Dir) (prev : Option Str), acc ++ l = entriesP es → prev = (acc.getLast?).map (·.1) → dirOfP prev l acc = (true, entriesP es)
  | [], acc, prev, h, _ => by simp at h; simp [dirOfP, h]
  | e :: l, acc, prev, h, hp => by
    have hO := entries_ok O
    have hpw := entries_pw O
    have hmem : e ∈ entriesP es := h ▸ by simp
    have hk : e.1 ∈ keys (entriesP es) := List.mem_map_of_mem hmem
    obtain ⟨lp, hl, h0⟩ := hO.path e.1 hk
    have hkeys : keys acc ++ e.1 :: keys l = keys (entriesP es) := by rw [← h]; simp [keys]
    have hnew : e.1 ∉ keys acc := by
      have := hO.nodup
      rw [← hkeys, List.nodup_append] at this
      exact fun hc => this.2.2 _ hc _ List.mem_cons_self rfl
    rw [← hkeys] at hpw
    have hbad : badE prev e acc = false := by
      have b1 := depth_pos hl h0
      have b2 := hO.value e hmem
      have b3 := (hO.version e hmem).1
      have b4 : ∀ q, prev = some q → lessP q e.1 = true := fun q hq => by
        rw [hp] at hq
        obtain ⟨x, hg, rfl⟩ := Option.map_eq_some_iff.1 hq
        exact (List.pairwise_append.1 hpw).2.2 x.1 (List.mem_map_of_mem (List.mem_of_getLast? hg)) e.1 List.mem_cons_self
      have b5 : thereB acc (parentP e.1) = true := by
        rw [thereB_iff]
        rcases hO.up e.1 hk with h1 | h1
        · exact .inr h1
        · left
          rw [← hkeys] at h1
          rcases List.mem_append.1 h1 with h2 | h2
          · exact h2
          · exfalso
            have hlt := parent_less hl h0
            rcases List.mem_cons.1 h2 with h3 | h3
            · rw [h3] at hlt; exact less_asym hlt hlt
            · have := (List.pairwise_cons.1 (List.pairwise_append.1 hpw).2.1).1 _ h3
              exact less_asym hlt this
      have b2' : ¬ 64 < e.2.1.length := by omega
      have b3' : ¬ e.2.2 < 1 := by omega
      clear hp
      cases prev with
      | none => simp [badE, b1, b2', b3', b5]
      | some q => simp [badE, b1, b2', b3', b5, b4 q rfl]
    rw [dirOfP, if_neg (by simp [hbad]), aset_new hnew]
    exact dirOf_go O l (acc ++ [e]) (some e.1) (by rw [← h]; simp) (by simp)
theorem dirOf_entries {n m : Nat} {es : Dir} (O : DirOK n m es) : dirOfP none (entriesP es) [] = (true, entriesP es) := dirOf_go O _ [] none rfl rfl
end Go.DS

/-
  Walks: the law DirOthers.
-/
namespace Go.DS
open Go Go.Proofs
set_option maxRecDepth 100000
set_option linter.unusedVariables false
set_option linter.unusedSimpArgs false
variable {h : DHeap}
theorem getR_names (es : Dir) (p : Str) : (getR es p).names.length ≤ 1048576 := by
  unfold getR
  split
  · exact Nat.zero_le _
  · split <;> exact Nat.zero_le _
end Go.DS

/-
  Walks: two directories in the heap.
-/
namespace Go.DS
open Go Go.Proofs
set_option maxRecDepth 100000
set_option linter.unusedVariables false
set_option linter.unusedSimpArgs false
variable {h : DHeap}
/-- Two directories stand in the heap. -/
abbrev hD2 (es es' : Dir) : DHeap := [dirM es, .cells [.mp 0], dirM es', .cells [.mp 2]]
theorem atD2 (es es' : Dir) : At (hD2 es es') 1 0 es := ⟨rfl, rfl⟩
theorem atD2' (es es' : Dir) : At (hD2 es es') 3 2 es' := ⟨rfl, rfl⟩
theorem hbD2 (es es' : Dir) : HB (hD2 es es') := by
  unfold HB
  simp only [List.all_cons, List.all_nil, below_dir, Bool.and_true, Bool.true_and]
  rfl
theorem applyD2 {n m : Nat} {es : Dir} (es' : Dir) (O : DirOK n m es) (hn : n ≤ 1048576) (hm : m ≤ 4611686018427387904) (c : Cmd) (hp : c.path.length ≤ 1099511627776) :
    lim Tryz.prog cfg 34 [.ptr 1 0, cmdD c] (hD2 es es') = some (repD (applyP es c).1, hD2 (applyP es c).2 es') :=
  apply_lim (atD2 es es') O (hbD2 es es') hn hm c hp
theorem applyD2' {n m : Nat} {es : Dir} (es' : Dir) (O : DirOK n m es) (hn : n ≤ 1048576) (hm : m ≤ 4611686018427387904) (c : Cmd) (hp : c.path.length ≤ 1099511627776) :
    lim Tryz.prog cfg 34 [.ptr 3 0, cmdD c] (hD2 es' es) = some (repD (applyP es c).1, hD2 es' (applyP es c).2) :=
  apply_lim (atD2' es' es) O (hbD2 es' es) hn hm c hp
theorem eds_get (l : List Ent) (i : Nat) (h : i < (eds l).length) : (eds l)[i] = [vs (l[i]'(by simpa [eds] using h)).1, vs (l[i]'(by simpa [eds] using h)).2.1, vi (l[i]'(by simpa [eds] using h)).2.2] := by simp [eds]
theorem nat_nn (k : Nat) : (0 : Int) ≤ (k : Int) := by omega
theorem ents_path {n m : Nat} {es : Dir} (O : DirOK n m es) {e : Ent} (he : e ∈ entriesP es) : ∃ l, parse e.1 = some l ∧ l ≠ [] ∧ e.1.length ≤ 137 ∧ 1 ≤ e.2.2 ∧ parentP e.1 ≠ [] ∧ (getR es (parentP e.1)).err = 0 ∧ (parentP e.1).length ≤ 137 := by
  have hO := entries_ok O
  obtain ⟨l, hl, h0⟩ := hO.path e.1 (List.mem_map_of_mem he)
  have hp := parse_parent hl h0
  refine ⟨l, hl, h0, path_le hl, (hO.version e he).1, hp.2, ?_, path_le hp.1⟩
  have ht : thereB es (parentP e.1) = true := by
    rw [thereB_iff]
    rcases hO.up e.1 (List.mem_map_of_mem he) with h | h
    · exact .inr h
    · left; rw [entries_keys, sortC_mem'] at h; exact h
  rw [getR_there hp.1 ht]
end Go.DS

/-
  Walks: sessions.
-/
namespace Go.DS
open Go Go.Proofs
set_option maxRecDepth 100000
set_option linter.unusedVariables false
set_option linter.unusedSimpArgs false
@[go_sem] theorem ok15 : calleeOK Tryz.prog 15 = true := by kernel_rfl
@[go_sem] theorem ex15 : (cfg.ext 15).isSome = true := rfl
@[go_sem] theorem ok57 : calleeOK Tryz.prog 57 = true := by kernel_rfl
@[go_sem] theorem ex57 : (cfg.ext 57).isSome = true := rfl
@[go_sem] theorem ok40 : calleeOK Tryz.prog 40 = true := by kernel_rfl
@[go_sem] theorem ex40 : (cfg.ext 40).isSome = true := rfl
@[go_sem] theorem ok36 : calleeOK Tryz.prog 36 = true := by kernel_rfl
@[go_sem] theorem ex36 : (cfg.ext 36).isSome = true := rfl
@[go_sem] theorem ok73 : calleeOK Tryz.prog 73 = true := by kernel_rfl
@[go_sem] theorem ex73 : (cfg.ext 73).isSome = false := rfl
def cd41 : Cd := .seq (R [c0 1 (.new true (.s 0)), c0 2 (.tk (.c (.sc .nilFunc)))] [1]) (.seq (R [c0 3 (.mkf (.func 73) 0 [(.s 1)]), c0 2 (.tk (.s 3))] [1, 2]) (.ret))
theorem fun41 : Fun Tryz.prog cfg 41 4 cd41 [.s 2] := ⟨rfl, Tryz.f41, _, Tryz.func41, rfl, rfl, by kernel_rfl, by kernel_rfl⟩
@[go_sem] theorem ok41 : calleeOK Tryz.prog 41 = true := by kernel_rfl
@[go_sem] theorem ex41 : (cfg.ext 41).isSome = false := rfl
def cd13 : Cd := .seq (R [c0 0 (.tk (.c (.sc (.pointer none))))] [4]) (.seq (R [c0 1 (.call none (.c (kf 31)) []), c0 2 (.mkm), c0 3 (.bld [.sc (.pointer none), .sc (.map none)] [(0, 1, (.s 1)), (1, 1, (.s 2))]), c0 4 (.new true (.s 3)), c0 0 (.tk (.s 4))] [0, 4]) (.ret))
theorem fun13 : Fun Tryz.prog cfg 13 5 cd13 [.s 0] := ⟨rfl, Tryz.f13, _, Tryz.func13, rfl, rfl, by kernel_rfl, by kernel_rfl⟩
@[go_sem] theorem ok13 : calleeOK Tryz.prog 13 = true := by kernel_rfl
@[go_sem] theorem ex13 : (cfg.ext 13).isSome = false := rfl
def cd12 : Cd := .seq (R [c0 1 (.new false (.s 0)), cb 2 (.tk (.c (kb false)))] [1]) (.seq (R [c0 3 (.mov 0 (.s 1)), c0 4 (.ld false 1 (.s 3)), cb 5 (.bin .leq .any (.c (ki .i64 0)) (.s 4)), cb 6 (.mv (.s 5)), cg 7 6 true (.mov 0 (.s 1)), cg 8 6 true (.ld false 1 (.s 7)), ch 9 6 true (.bin .leq .any (.s 8) (.c (ki .i64 1099511627776))), cb 10 (.pick (.s 6) (.s 9) (.c (kb false))), cb 11 (.mv (.s 10)), cg 12 11 true (.mov 1 (.s 1)), cg 13 11 true (.ld false 1 (.s 12)), ch 14 11 true (.bin .leq .any (.c (ki .i64 1)) (.s 13)), cb 15 (.pick (.s 11) (.s 14) (.c (kb false))), cb 16 (.mv (.s 15)), cg 17 16 true (.mov 1 (.s 1)), cg 18 16 true (.ld false 1 (.s 17)), ch 19 16 true (.bin .leq .any (.s 18) (.c (ki .i64 1099511627776))), cb 20 (.pick (.s 16) (.s 19) (.c (kb false))), cb 2 (.tk (.s 20))] [1, 2]) (.ret))
theorem fun12 : Fun Tryz.prog cfg 12 21 cd12 [.s 2] := ⟨rfl, Tryz.f12, _, Tryz.func12, rfl, rfl, by kernel_rfl, by kernel_rfl⟩
@[go_sem] theorem ok12 : calleeOK Tryz.prog 12 = true := by kernel_rfl
@[go_sem] theorem ex12 : (cfg.ext 12).isSome = false := rfl
def cd32 : Cd := .seq (R [c0 1 (.new false (.s 0)), c0 2 (.new false (.c (.agg [ki .i64 0, ks [], ki .i64 0, kn 1])))] [1, 2]) (.seq (R [c0 3 (.mov 3 (.s 1)), c0 4 (.ld false 1 (.s 3)), c0 5 (.call none (.c (kf 57)) [(.s 4)]), c0 6 (.mov 3 (.s 1)), cn (.st 1 (.s 6) (.s 5))] [1, 2]) (.seq (R [c0 7 (.ldx false true 4 (.s 1)), cn (.st 4 (.s 2) (.s 7))] [1, 2]) (.ret)))
theorem fun32 : Fun Tryz.prog cfg 32 8 cd32 [.b 2 true 4] := ⟨rfl, Tryz.f32, _, Tryz.func32, rfl, rfl, by kernel_rfl, by kernel_rfl⟩
@[go_sem] theorem ok32 : calleeOK Tryz.prog 32 = true := by kernel_rfl
@[go_sem] theorem ex32 : (cfg.ext 32).isSome = false := rfl
def cd14 : Cd := .seq (R [c0 4 (.new false (.s 1)), c0 5 (.new false (.s 2)), c0 6 (.new false (.c (.agg [ki .i64 0, ks [], ki .i64 0, kn 1])))] [0, 4, 5, 6, 7, 8]) (.seq (.block 0 (.seq (R [c0 10 (.mov 2 (.s 4)), c0 11 (.ld false 1 (.s 10)), cb 12 (.bin .eql .any (.s 11) (.c (ki .i64 0))), cb 9 (.tk (.s 12))] [0, 4, 5, 6, 7, 8, 9]) (.ite (.s 9) (.seq (R [c0 13 (.bld [ki .i64 0, ks [], ki .i64 0, kz 1] []), cn (.st 4 (.s 6) (.s 13))] [4, 5, 6, 7, 8]) (.ret)) (.seq (R [c0 15 (.ld true 8 (.s 4)), cb 16 (.call none (.c (kf 12)) [(.s 15)]), cb 17 (.un .not (.s 16)), cb 14 (.tk (.s 17))] [0, 4, 5, 6, 7, 8, 14]) (.ite (.s 14) (.seq (R [c0 18 (.bld [ki .i64 0, ks [], ki .i64 0, kz 1] [(0, 1, (.c (ki .i64 1)))]), cn (.st 4 (.s 6) (.s 18))] [4, 5, 6, 7, 8]) (.ret)) (.skip)))))) (.seq (.seq (RD [cd (some 19) false none (.mv (.s 0)) false false [0], cd (some 20) false none (.mov 0 (.s 19)) false false [19], cd (some 21) false none (.mov 1 (.s 20)) false false [20], cd (some 22) false none (.ld false 1 (.s 21)) false false [21], cd (some 23) false none (.mov 0 (.s 4)) false false [4], cd (some 24) false none (.ld false 1 (.s 23)) false false [23], cd (some 25) false none (.lkp [0] false 1 (.agg [ki .i64 0, ki .i64 0, ks [], ki .i64 0, kn 1]) false (.s 22) (.s 24)) false false [22, 24], cd (some 7) false none (.new false (.c (.agg [ki .i64 0, ki .i64 0, ks [], ki .i64 0, kn 1]))) true false [], cd none false none (.st 5 (.s 7) (.s 25)) false false [7, 25]] [0, 4, 5, 6, 7, 8] []) (.block 1 (.seq (R [c0 27 (.mov 0 (.s 7)), c0 28 (.ld false 1 (.s 27)), c0 29 (.mov 1 (.s 4)), c0 30 (.ld false 1 (.s 29)), cb 31 (.bin .gtr .any (.s 28) (.s 30)), cb 26 (.tk (.s 31))] [0, 4, 5, 6, 7, 8, 26]) (.ite (.s 26) (.seq (R [c0 32 (.bld [ki .i64 0, ks [], ki .i64 0, kz 1] [(0, 1, (.c (ki .i64 6)))]), cn (.st 4 (.s 6) (.s 32))] [4, 5, 6, 7, 8]) (.ret)) (.seq (R [c0 34 (.mov 0 (.s 7)), c0 35 (.ld false 1 (.s 34)), c0 36 (.mov 1 (.s 4)), c0 37 (.ld false 1 (.s 36)), cb 38 (.bin .eql .any (.s 35) (.s 37)), cb 33 (.tk (.s 38))] [0, 4, 5, 6, 7, 8, 33]) (.ite (.s 33) (.seq (R [c0 39 (.mov 1 (.s 7)), c0 40 (.ld true 4 (.s 39)), c0 41 (.call none (.c (kf 32)) [(.s 40)]), cn (.st 4 (.s 6) (.s 41))] [4, 5, 6, 7, 8]) (.ret)) (.skip))))))) (.seq (R [c0 42 (.ldx false true 4 (.s 5)), c0 8 (.new false (.c (.agg [ki .i64 0, ks [], ki .i64 0, kn 1]))), cn (.st 4 (.s 8) (.s 42))] [0, 4, 5, 6, 7, 8]) (.seq (.seq (R [c0 43 (.ld true 8 (.s 4)), cb 44 (.call none (.c (kf 33)) [(.s 43)]), cb 45 (.un .not (.s 44))] [0, 4, 5, 6, 7, 8, 45]) (.ite (.s 45) (RD [cd (some 46) false none (.mv (.s 0)) false false [0], cd (some 47) false none (.mov 0 (.s 46)) false false [46], cd (some 48) false none (.mov 0 (.s 47)) false false [47], cd (some 49) false none (.ld false 1 (.s 48)) false false [48], cd (some 50) false none (.ld true 8 (.s 4)) false false [4], cd (some 51) false none (.call none (.c (kf 34)) [(.s 49), (.s 50)]) false false [49, 50], cd none false none (.st 4 (.s 8) (.s 51)) false false [8, 51]] [0, 4, 5, 6, 7, 8] []) (.skip))) (.seq (RD [cd (some 52) false none (.mv (.s 0)) false false [0], cd (some 53) false none (.mov 0 (.s 52)) false false [52], cd (some 54) false none (.mov 1 (.s 53)) false false [53], cd (some 55) false none (.ld false 1 (.s 54)) false false [54], cd (some 56) false none (.mov 0 (.s 4)) false false [4], cd (some 57) false none (.ld false 1 (.s 56)) false false [56], cd (some 58) false none (.mov 1 (.s 4)) false false [4], cd (some 59) false none (.ld false 1 (.s 58)) false false [58], cd (some 60) false none (.ld true 4 (.s 8)) false false [8], cd (some 61) false none (.call none (.c (kf 32)) [(.s 60)]) false false [60], cd (some 62) false none (.bld [ki .i64 0, ki .i64 0, ks [], ki .i64 0, kz 1] [(0, 1, (.s 59)), (1, 4, (.s 61))]) false false [59, 61], cd none false none (.mup [0] false 1 (.s 55) (.s 57) (.s 62)) false false [55, 57, 62]] [4, 5, 6, 7, 8] []) (.seq (R [c0 63 (.ld true 4 (.s 8)), c0 64 (.call none (.c (kf 32)) [(.s 63)]), cn (.st 4 (.s 6) (.s 64))] [4, 5, 6, 7, 8]) (.ret)))))))
theorem fun14 : Fun Tryz.prog cfg 14 65 cd14 [.b 6 true 4] := ⟨rfl, Tryz.f14, _, Tryz.func14, rfl, rfl, by kernel_rfl, by kernel_rfl⟩
@[go_sem] theorem ok14 : calleeOK Tryz.prog 14 = true := by kernel_rfl
@[go_sem] theorem ex14 : (cfg.ext 14).isSome = false := rfl
def cd19 : Cd := .seq (R [c0 2 (.tk (.c (kn 3)))] [0]) (.seq (R [c0 3 (.mv (.s 0)), c0 4 (.mov 0 (.s 3)), c0 5 (.mov 0 (.s 4)), c0 6 (.ld false 1 (.s 5)), c0 7 (.call none (.c (kf 39)) [(.s 6)]), c0 2 (.tk (.s 7))] [2]) (.ret))
theorem fun19 : Fun Tryz.prog cfg 19 8 cd19 [.s 2] := ⟨rfl, Tryz.f19, _, Tryz.func19, rfl, rfl, by kernel_rfl, by kernel_rfl⟩
@[go_sem] theorem ok19 : calleeOK Tryz.prog 19 = true := by kernel_rfl
@[go_sem] theorem ex19 : (cfg.ext 19).isSome = false := rfl
def cd20 : Cd := .seq (R [c0 2 (.tk (.c (kn 6)))] [0]) (.seq (R [c0 3 (.tk (.c (kn 6)))] [0, 3]) (.seq (.seq (R [c0 6 (.mv (.s 0)), c0 7 (.mov 0 (.s 6)), c0 8 (.mov 1 (.s 7)), c0 9 (.ld false 1 (.s 8)), c0 10 (.call none (.c (kf 41)) [(.s 9)]), c0 11 (.call none (.c (kf 40)) [(.s 10)]), c0 12 (.len 1 (.s 11)), c0 13 (.mv (.c (ki .i64 0)))] [0, 3, 11, 12, 13]) (.block 0 (LP [0, 3, 11, 12, 13] (.seq (R [c0 14 (.bin .lss .any (.s 13) (.s 12))] [0, 3, 11, 12, 13, 14]) (.seq (.ite (.s 14) (.skip) (.exit 0)) (.seq (.block 1 (.seq (R [c0 15 (.ixp 1 (.s 11) (.s 13)), c0 16 (.ldx true false 1 (.s 15)), c0 5 (.tk (.s 16))] [0, 3, 5, 11, 12, 13]) (RD (cd (some 17) false none (.tk (.s 3)) false false [3] :: cd (some 18) false none (.mv (.s 5)) false false [5] :: cd (some 19) false none (.mv (.s 0)) false false [0] :: cd (some 20) false none (.mov 0 (.s 19)) false false [19] :: cd (some 21) false none (.mov 1 (.s 20)) false false [20] :: cd (some 22) false none (.ld false 1 (.s 21)) false false [21] :: cd (some 23) false none (.mv (.s 5)) false false [5] :: cd (some 24) false none (.lkp [0] false 1 (.agg [ki .i64 0, ki .i64 0, ks [], ki .i64 0, kn 1]) false (.s 22) (.s 23)) false false [22, 23] :: cd (some 25) false none (.fld 0 false 1 (.s 24)) false false [24] :: cd (some 26) false none (.mv (.s 0)) false false [0] :: cd (some 27) false none (.mov 0 (.s 26)) false false [26] :: cd (some 28) false none (.mov 1 (.s 27)) false false [27] :: cd (some 29) false none (.ld false 1 (.s 28)) false false [28] :: cd (some 30) false none (.mv (.s 5)) false false [5] :: cd (some 31) false none (.lkp [0] false 1 (.agg [ki .i64 0, ki .i64 0, ks [], ki .i64 0, kn 1]) false (.s 29) (.s 30)) false false [29, 30] :: cd (some 32) false none (.fld 1 true 4 (.s 31)) false false [31] :: cd (some 33) false none (.call none (.c (kf 32)) [(.s 32)]) false false [32] :: cd (some 34) false none (.bld [ki .i64 0, ki .i64 0, ki .i64 0, ks [], ki .i64 0, kz 1] [(0, 1, (.s 18)), (1, 1, (.s 25)), (2, 4, (.s 33))]) false false [18, 25, 33] :: cd (some 35) false none (.bsl 6 [(.s 34)]) false false [34] :: cd (some 36) false none (.app 6 79 false (.s 17) (.s 35)) false false [17, 35] :: cd (some 3) false none (.tk (.s 36)) false false [36] :: []) [0, 3, 11, 12, 13] []))) (R [c0 37 (.bin .add .any (.s 13) (.c (ki .i64 1))), c0 13 (.mv (.s 37))] [0, 3, 11, 12, 13]))))))) (.seq (R [c0 38 (.tk (.s 3)), c0 2 (.tk (.s 38))] [2]) (.ret))))
theorem fun20 : Fun Tryz.prog cfg 20 39 cd20 [.s 2] := ⟨rfl, Tryz.f20, _, Tryz.func20, rfl, rfl, by kernel_rfl, by kernel_rfl⟩
@[go_sem] theorem ok20 : calleeOK Tryz.prog 20 = true := by kernel_rfl
@[go_sem] theorem ex20 : (cfg.ext 20).isSome = false := rfl
def cd37 : Cd := .seq (R [cb 4 (.tk (.c (kb false)))] [0, 1]) (.seq (.seq (R [c0 7 (.mv (.s 0)), c0 8 (.len 1 (.s 7)), c0 9 (.mv (.s 1)), c0 10 (.len 1 (.s 9)), cb 11 (.bin .neq .any (.s 8) (.s 10))] [0, 1, 11]) (.ite (.s 11) (.seq (R [cb 4 (.tk (.c (kb false)))] [4]) (.ret)) (.skip))) (.seq (.seq (R [c0 5 (.tk (.c (ki .i64 0)))] [0, 1, 5]) (.block 0 (LP [0, 1, 5] (.seq (.seq (R [c0 12 (.mv (.s 5)), c0 13 (.mv (.s 0)), c0 14 (.len 1 (.s 13)), cb 15 (.bin .lss .any (.s 12) (.s 14))] [0, 1, 5, 15]) (.ite (.s 15) (.skip) (.exit 0))) (.seq (.block 1 (.seq (RD [cd (some 18) false none (.mv (.s 0)) false false [0], cd (some 19) false none (.mv (.s 5)) false false [5], cd (some 20) false none (.ixp 6 (.s 18) (.s 19)) false false [18, 19], cd (some 21) false none (.mov 2 (.s 20)) false false [20], cd (some 22) false none (.ld true 4 (.s 21)) false false [21], cd (some 23) false none (.mv (.s 1)) false false [1], cd (some 24) false none (.mv (.s 5)) false false [5], cd (some 25) false none (.ixp 6 (.s 23) (.s 24)) false false [23, 24], cd (some 26) false none (.mov 2 (.s 25)) false false [25], cd (some 27) false none (.ld true 4 (.s 26)) false false [26], cd (some 28) true none (.call none (.c (kf 16)) [(.s 22), (.s 27)]) false false [22, 27], cd (some 6) true none (.mv (.s 28)) false false [28]] [0, 1, 5, 6] []) (.seq (RD (cd (some 29) false none (.mv (.s 0)) false false [0] :: cd (some 30) false none (.mv (.s 5)) false false [5] :: cd (some 31) false none (.ixp 6 (.s 29) (.s 30)) false false [29, 30] :: cd (some 32) false none (.mov 0 (.s 31)) false false [31] :: cd (some 33) false none (.ld false 1 (.s 32)) false false [32] :: cd (some 34) false none (.mv (.s 1)) false false [1] :: cd (some 35) false none (.mv (.s 5)) false false [5] :: cd (some 36) false none (.ixp 6 (.s 34) (.s 35)) false false [34, 35] :: cd (some 37) false none (.mov 0 (.s 36)) false false [36] :: cd (some 38) false none (.ld false 1 (.s 37)) false false [37] :: cd (some 39) true none (.bin .neq .any (.s 33) (.s 38)) false false [33, 38] :: cd (some 40) true none (.mv (.s 39)) false false [39] :: cd (some 41) false (some (40, false)) (.mv (.s 0)) false false [0] :: cd (some 42) false (some (40, false)) (.mv (.s 5)) false false [5] :: cd (some 43) false (some (40, false)) (.ixp 6 (.s 41) (.s 42)) false false [41, 42] :: cd (some 44) false (some (40, false)) (.mov 1 (.s 43)) false false [43] :: cd (some 45) false (some (40, false)) (.ld false 1 (.s 44)) false false [44] :: cd (some 46) false (some (40, false)) (.mv (.s 1)) false false [1] :: cd (some 47) false (some (40, false)) (.mv (.s 5)) false false [5] :: cd (some 48) false (some (40, false)) (.ixp 6 (.s 46) (.s 47)) false false [46, 47] :: cd (some 49) false (some (40, false)) (.mov 1 (.s 48)) false false [48] :: cd (some 50) false (some (40, false)) (.ld false 1 (.s 49)) false false [49] :: cd (some 51) true (some (40, false)) (.bin .neq .any (.s 45) (.s 50)) false false [45, 50] :: cd (some 52) true none (.pick (.s 40) (.c (kb true)) (.s 51)) false false [40, 51] :: cd (some 53) true none (.mv (.s 52)) false false [52] :: cd (some 54) true (some (53, false)) (.mv (.s 6)) false false [6] :: cd (some 55) true (some (53, false)) (.un .not (.s 54)) false false [54] :: cd (some 56) true none (.pick (.s 53) (.c (kb true)) (.s 55)) false false [53, 55] :: []) [0, 1, 5, 56] []) (.ite (.s 56) (.seq (R [cb 4 (.tk (.c (kb false)))] [4]) (.ret)) (.skip))))) (R [c0 16 (.mv (.s 5)), c0 17 (.bin .add .any (.s 16) (.c (ki .i64 1))), c0 5 (.tk (.s 17))] [0, 1, 5])))))) (.seq (R [cb 4 (.tk (.c (kb true)))] [4]) (.ret))))
theorem fun37 : Fun Tryz.prog cfg 37 57 cd37 [.s 4] := ⟨rfl, Tryz.f37, _, Tryz.func37, rfl, rfl, by kernel_rfl, by kernel_rfl⟩
@[go_sem] theorem ok37 : calleeOK Tryz.prog 37 = true := by kernel_rfl
@[go_sem] theorem ex37 : (cfg.ext 37).isSome = false := rfl
def cd17 : Cd := .seq (R [cb 4 (.tk (.c (kb false)))] [0, 1]) (.seq (R (c0 5 (.mv (.s 0)) :: cb 6 (.bin .neq .ptr (.s 5) (.c (.sc (.pointer none)))) :: cb 7 (.mv (.s 6)) :: cg 8 7 true (.mv (.s 1)) :: ch 9 7 true (.bin .neq .ptr (.s 8) (.c (.sc (.pointer none)))) :: cb 10 (.pick (.s 7) (.s 9) (.c (kb false))) :: cb 11 (.mv (.s 10)) :: cg 12 11 true (.mv (.s 0)) :: cg 13 11 true (.call none (.c (kf 19)) [(.s 12)]) :: cg 14 11 true (.mv (.s 1)) :: cg 15 11 true (.call none (.c (kf 19)) [(.s 14)]) :: ch 16 11 true (.call none (.c (kf 21)) [(.s 13), (.s 15)]) :: cb 17 (.pick (.s 11) (.s 16) (.c (kb false))) :: cb 18 (.mv (.s 17)) :: cg 19 18 true (.mv (.s 0)) :: cg 20 18 true (.call none (.c (kf 20)) [(.s 19)]) :: cg 21 18 true (.mv (.s 1)) :: cg 22 18 true (.call none (.c (kf 20)) [(.s 21)]) :: ch 23 18 true (.call none (.c (kf 37)) [(.s 20), (.s 22)]) :: cb 24 (.pick (.s 18) (.s 23) (.c (kb false))) :: cb 4 (.tk (.s 24)) :: []) [4]) (.ret))
theorem fun17 : Fun Tryz.prog cfg 17 25 cd17 [.s 4] := ⟨rfl, Tryz.f17, _, Tryz.func17, rfl, rfl, by kernel_rfl, by kernel_rfl⟩
@[go_sem] theorem ok17 : calleeOK Tryz.prog 17 = true := by kernel_rfl
@[go_sem] theorem ex17 : (cfg.ext 17).isSome = false := rfl
variable {h : DHeap}
abbrev seenV : Seen → DV := fun v => .agg [vi v.1, vi v.2.err, vs v.2.value, vi v.2.version, .list false 1 (ts v.2.names)]
abbrev seenM (s : Seens) : DObj := .map (amap vi seenV s)
/-- A machine stands in the heap. -/
structure AtS (h : DHeap) (i d j k : Nat) (x : Mach) : Prop where
  o : h[i]? = some (.cells [.ptr d 0, .mp k])
  d : At h d j x.d
  s : h[k]? = some (seenM x.s)
  ne : j ≠ k
theorem AtS.obj {i d j k : Nat} {x : Mach} (H : AtS h i d j k x) (N : List DV → Prop) : ObjP h i N = N [.ptr d 0, .mp k] := by simp only [ObjP, H.o]
theorem AtS.map {i d j k : Nat} {x : Mach} (H : AtS h i d j k x) (N : List (DV × DV) → Prop) : MapP h k N = N (amap vi seenV x.s) := by simp only [MapP, H.s]
theorem AtS.lt {i d j k : Nat} {x : Mach} (H : AtS h i d j k x) : i < h.length ∧ k < h.length := ⟨(List.getElem?_eq_some_iff.1 H.o).1, (List.getElem?_eq_some_iff.1 H.s).1⟩
theorem AtS.nes {i d j k : Nat} {x : Mach} (H : AtS h i d j k x) : i ≠ j ∧ i ≠ k ∧ d ≠ k :=
  ⟨(fun e => by have := H.d.m; rw [← e, H.o] at this; cases this), (fun e => by have := H.s; rw [← e, H.o] at this; cases this), (fun e => by have := H.s; rw [← e, H.d.d] at this; cases this)⟩
abbrev setS (h : DHeap) (j k : Nat) (x : Mach) : DHeap := (h.set j (dirM x.d)).set k (seenM x.s)
theorem AtS.set {i d j k : Nat} {x : Mach} (H : AtS h i d j k x) (y : Mach) : AtS (setS h j k y) i d j k y := by
  obtain ⟨n1, n2, n3⟩ := H.nes
  have hl := H.lt
  have hd := H.d.lt
  refine ⟨?_, ⟨?_, ?_⟩, ?_, H.ne⟩
  · rw [List.getElem?_set_ne (Ne.symm n2), List.getElem?_set_ne (Ne.symm n1)]; exact H.o
  · rw [List.getElem?_set_ne (Ne.symm n3), List.getElem?_set_ne (Ne.symm H.d.ne)]; exact H.d.d
  · rw [List.getElem?_set_ne (Ne.symm H.ne), List.getElem?_set_self hd.2]
  · rw [List.getElem?_set_self (by simpa using hl.2)]
theorem AtS.same {i d j k : Nat} {x : Mach} (H : AtS h i d j k x) : setS h j k x = h := by
  unfold setS
  rw [set_same H.d.m, set_same H.s]
theorem below_seen (n : Nat) (s : Seens) : belowO n (seenM s) = true := by
  simp only [belowO, amap, List.all_map, List.all_eq_true]
  intro e he
  simp only [Function.comp, below, below.all, below_ts, Bool.and_self]
theorem HB.setS {h : DHeap} (B : HB h) (j k : Nat) (y : Mach) : HB (setS h j k y) := by
  have B1 := B.set j y.d
  unfold HB at *
  rw [List.length_set] at *
  rw [List.all_eq_true] at *
  intro o ho
  rcases List.mem_or_eq_of_mem_set ho with h1 | h1
  · have := B1 o h1; simpa using this
  · rw [h1]; exact below_seen _ _
theorem find_seen (c : Int) (s : Seens) : findD [0] (vi c) (amap vi seenV s) = some ((aget c s).map seenV) := find_amap (V := seenV) (eqK_int .i64) c s
theorem snew_lim : lim Tryz.prog cfg 13 [] h = some (.ptr (h.length + 3) 0, h ++ [dirM [], .cells [.mp h.length], seenM [], .cells [.ptr (h.length + 1) 0, .mp (h.length + 2)]]) := by
  have q1 := new_lim (h := h)
  refine lim_fun fun13 rfl (by simp) rfl ?_
  delta cd13
  simp -implicitDefEqProofs -dsimp only [go_sem, q1]
  simp [amap]
theorem svalid_lim (c : Cmd) : lim Tryz.prog cfg 12 [cmdD c] h = some (vb (validB c), h) := by
  refine lim_funp fun12 rfl (by simp) rfl rfl ?_
  delta cd12
  unfold validB
  by_cases h1 : 0 ≤ c.client
  · by_cases h2 : c.client ≤ 1099511627776
    · by_cases h3 : 1 ≤ c.seq
      · simp -implicitDefEqProofs -dsimp only [go_sem, h1, h2, h3]
        simp
      · simp -implicitDefEqProofs -dsimp only [go_sem, h1, h2, h3]
        simp
    · simp -implicitDefEqProofs -dsimp only [go_sem, h1, h2]
      simp
  · simp -implicitDefEqProofs -dsimp only [go_sem, h1]
    simp
theorem sclone_lim (own : Bool) (l : List Str) (hl : l.length ≤ 1048576) : lim Tryz.prog cfg 57 [vts own l] h = some (vts true l, h) := by
  refine lim_ext rfl ?_ rfl
  show cloneLF 1 [vts own l] h = _
  simp only [cloneLF]
  rw [if_pos ⟨by first | rfl | trivial, by rw [ts_len]; exact hl, one_ts l, cell_ts l⟩]
theorem sown_lim (r : Rep) (hl : r.names.length ≤ 1048576) : lim Tryz.prog cfg 32 [repD r] h = some (repD r, h) := by
  have q := fun own => sclone_lim (h := []) own r.names hl
  refine lim_funp fun32 rfl (by simp) (by simp [heapFree, heapFree.all, free_ts]) (by simp [heapFree, heapFree.all, free_ts]) ?_
  delta cd32
  simp -implicitDefEqProofs -dsimp only [go_sem, q]
theorem smclone_lim {i : Nat} {es : List (DV × DV)} (hi : h[i]? = some (.map es)) : lim Tryz.prog cfg 36 [.mp i] h = some (.mp h.length, h ++ [.map es]) := by
  refine lim_ext rfl ?_ rfl
  show cloneF [.mp i] h = _
  simp only [cloneF, hi]
set_option maxHeartbeats 2000000 in
theorem sapply_lim {i d j k n m : Nat} {x : Mach} (H : AtS h i d j k x) (O : SessOK n m x) (B : HB h) (hn : n ≤ 1048575) (hm : m ≤ 4611686018427387903) (c : Cmd) (o : Bool) (ctl : Rep) (hp : c.path.length ≤ 1099511627776) (hc : ctl.names.length ≤ 1048576) :
    lim Tryz.prog cfg 14 [.ptr i 0, cmdD c, .agg [vi ctl.err, vs ctl.value, vi ctl.version, .list o 1 (ts ctl.names)]] h = some (repD (sessP x c ctl).1, setS h j k (sessP x c ctl).2) := by
  have q1 := svalid_lim (h := h) c
  have q2 := control_lim (h := h) c
  have q3 := apply_lim H.d O.dir B (by omega) (by omega) c hp
  have hsb := seen_bounds O c.client
  have q4 := sown_lim (h := h) (seenP x.s c.client).2 (by omega)
  have q5 := fun h' => sown_lim (h := h') ctl hc
  have q6 := fun h' => sown_lim (h := h') (applyP x.d c).1 (by have := (apply_names x.d c).1; have := O.dir.len; omega)
  have hset : ∀ r : Rep, setKey [0] (vi c.client) (seenV (c.seq, r)) (amap vi seenV x.s) = some (amap vi seenV (aset c.client (c.seq, r) x.s)) := fun r => set_amap (V := seenV) (eqK_int .i64) c.client (c.seq, r) x.s
  have hfd := find_seen c.client x.s
  have ho := H.obj
  have hmp := H.map
  have hsm := H.same
  have hS1 := hset ctl
  have hS2 := hset (applyP x.d c).1
  have H2 : AtS (h.set j (dirM (applyP x.d c).2)) i d j k ⟨(applyP x.d c).2, x.s⟩ := by
    have := H.set ⟨(applyP x.d c).2, x.s⟩
    unfold setS at this
    rwa [set_same (h := h.set j (dirM (applyP x.d c).2)) (by rw [List.getElem?_set_ne H.ne]; exact H.s)] at this
  have ho2 := H2.obj
  have hmp2 := H2.map
  have hseen : seenP x.s c.client = (aget c.client x.s).getD (0, {}) := rfl
  have hsame : h.set j (dirM x.d) = h := set_same H.d.m
  refine lim_fun fun14 rfl (by simp) rfl ?_
  delta cd14
  by_cases c0 : c.op = 0
  · have e : sessP x c ctl = ({}, x) := by simp [sessP, c0]
    rw [e, hsm]
    simp -implicitDefEqProofs -dsimp only [go_sem, c0]
    rfl
  cases c1 : validB c with
  | false =>
    have e : sessP x c ctl = ({ err := 1 }, x) := by simp [sessP, c0, c1]
    rw [e, hsm]
    rw [c1] at q1
    simp -implicitDefEqProofs -dsimp only [go_sem, c0, q1]
    rfl
  | true =>
  rw [c1] at q1
  have c1' : ¬ validB c = false := by simp [c1]
  generalize hz : (aget c.client x.s).getD (0, {}) = z at *
  have hfd2 : ((aget c.client x.s).map seenV).getD (.agg [vi 0, vi 0, vs [], vi 0, .list true 1 []]) = .agg [vi z.1, vi z.2.err, vs z.2.value, vi z.2.version, .list (aget c.client x.s).isNone 1 (ts z.2.names)] := by
    rw [← hz]
    cases aget c.client x.s <;> rfl
  by_cases c2 : c.seq < z.1
  · have e : sessP x c ctl = ({ err := 6 }, x) := by unfold sessP; rw [if_neg c0, if_neg c1', hseen, if_pos c2]
    rw [e, hsm]
    simp -implicitDefEqProofs -dsimp only [go_sem, wp_RD, c0, q1, ho, hmp, hfd, hfd2, c2]
    rfl
  by_cases c3 : z.1 = c.seq
  · have e : sessP x c ctl = (z.2, x) := by unfold sessP; rw [if_neg c0, if_neg c1', hseen, if_neg c2, if_pos c3]
    rw [e, hsm]
    rw [hseen] at q4
    simp -implicitDefEqProofs -dsimp only [go_sem, wp_RD, c0, q1, ho, hmp, hfd, hfd2, c2, c3, q4]
    first | rfl | (intro hh; exfalso; omega)
  cases c4 : controlB c with
  | true =>
    have e : sessP x c ctl = (ctl, ⟨x.d, aset c.client (c.seq, ctl) x.s⟩) := by unfold sessP; rw [if_neg c0, if_neg c1', hseen, if_neg c2, if_neg c3, if_pos c4]
    rw [e]
    unfold setS
    rw [hsame]
    rw [c4] at q2
    simp -implicitDefEqProofs -dsimp only [go_sem, wp_RD, c0, q1, q2, ho, hmp, hfd, hfd2, c2, c3, q5, hS1]
    try rfl
  | false =>
    have e : sessP x c ctl = ((applyP x.d c).1, ⟨(applyP x.d c).2, aset c.client (c.seq, (applyP x.d c).1) x.s⟩) := by unfold sessP; rw [if_neg c0, if_neg c1', hseen, if_neg c2, if_neg c3, if_neg (by simp [c4])]
    rw [e]
    rw [c4] at q2
    simp -implicitDefEqProofs -dsimp only [go_sem, wp_RD, c0, q1, q2, q3, ho, hmp, ho2, hmp2, hfd, hfd2, c2, c3, q6, hS2]
    try rfl
theorem AtS.app {i d j k : Nat} {x : Mach} (H : AtS h i d j k x) (h' : DHeap) : AtS (h ++ h') i d j k x :=
  ⟨by rw [List.getElem?_append_left H.lt.1]; exact H.o, H.d.app h', by rw [List.getElem?_append_left H.lt.2]; exact H.s, H.ne⟩
def ses (s : Seens) : List (List DV) := s.map fun e => [vi e.1, vi e.2.1, vi e.2.2.err, vs e.2.2.value, vi e.2.2.version, .list false 1 (ts e.2.2.names)]
@[go_sem] theorem ses_len (l : Seens) : (ses l).length = l.length := by simp [ses]
@[go_sem] theorem ses_snoc (l : Seens) (a b c e : Int) (v : Str) (n : List Str) : ses l ++ [[.sc (.int .i64 a), .sc (.int .i64 b), .sc (.int .i64 c), .sc (.string (mkB v)), .sc (.int .i64 e), .list false 1 (ts n)]] = ses (l ++ [(a, (b, { err := c, value := v, version := e, names := n }))]) := by simp [ses]
@[go_sem high] theorem idxP_ses (l : Seens) (i : Int) (N : List DV → Prop) : IdxP (ses l) i N = IdxP l i fun e => N [vi e.1, vi e.2.1, vi e.2.2.err, vs e.2.2.value, vi e.2.2.version, .list false 1 (ts e.2.2.names)] := idxP_map
theorem nat_nn9 (k : Nat) : (0 : Int) ≤ (k : Int) := by omega
theorem ses_get (l : Seens) (i : Nat) (h : i < (ses l).length) : (ses l)[i] = [vi (l[i]'(by simpa [ses] using h)).1, vi (l[i]'(by simpa [ses] using h)).2.1, vi (l[i]'(by simpa [ses] using h)).2.2.err, vs (l[i]'(by simpa [ses] using h)).2.2.value, vi (l[i]'(by simpa [ses] using h)).2.2.version, .list false 1 (ts (l[i]'(by simpa [ses] using h)).2.2.names)] := by simp [ses]
theorem free_ses : ∀ l : Seens, heapFree.alls (ses l) = true
  | [] => rfl
  | s :: l => by
    have := free_ses l
    simp only [ses] at this
    simp only [ses, List.map_cons, heapFree.alls, heapFree.all, heapFree, free_ts, this, Bool.and_self]
theorem below_ses (n : Nat) : ∀ l : Seens, below.alls n (ses l) = true
  | [] => rfl
  | s :: l => by
    have := below_ses n l
    simp only [ses] at this
    simp only [ses, List.map_cons, below.alls, below.all, below, below_ts, this, Bool.and_self]
@[go_sem] theorem vnums_len (l : List Int) : (vnums l).length = l.length := by simp [vnums]
@[go_sem high] theorem idxP_vnums (l : List Int) (i : Int) (N : List DV → Prop) : IdxP (vnums l) i N = IdxP l i fun e => N [vi e] := idxP_map
theorem keysIOK {n m : Nat} {x : Mach} (O : SessOK n m x) (hn : n ≤ 1048575) : KeysIOK (amap vi seenV x.s) (keys x.s) :=
  ⟨by simp only [amap, keys, List.map_map]; rfl, O.nodup, by rw [keys_len]; have := O.len; omega, fun k hk => by
    obtain ⟨e, he, rfl⟩ := List.mem_map.1 hk
    have := O.client e he
    omega⟩
theorem amap_keysI (s : Seens) : (amap vi seenV s).map (fun e => keyI e.1) = keys s := by
  simp only [amap, keys, List.map_map]
  exact List.map_congr_left fun e _ => rfl
theorem skeys_lim (j : Nat) : lim Tryz.prog cfg 41 [.mp j] h = some (.fn (.func 73) [] [.ptr h.length 0], h ++ [.cells [.mp j]]) := by
  refine lim_fun fun41 rfl (by simp) rfl ?_
  delta cd41
  simp -implicitDefEqProofs -dsimp only [go_sem]
theorem ssorted_lim {i j n m : Nat} {x : Mach} (O : SessOK n m x) (hn : n ≤ 1048575) (hi : h[i]? = some (.cells [.mp j])) (hj : h[j]? = some (seenM x.s)) :
    lim Tryz.prog cfg 40 [.fn (.func 73) [] [.ptr i 0]] h = some (.list true 1 (vnums (sortI (keys x.s))), h) := by
  refine lim_ext rfl ?_ rfl
  show keysIF _ [.fn (.func 73) [] [.ptr i 0]] h = _
  simp only [keysIF, hi, hj]
  generalize hks : (amap vi seenV x.s).map (fun e => keyI e.1) = ks
  rw [amap_keysI] at hks
  subst hks
  rw [if_pos ⟨rfl, keysIOK O hn⟩]
set_option maxHeartbeats 2000000 in
theorem ssessions_lim {i d j k n m : Nat} {x : Mach} (H : AtS h i d j k x) (O : SessOK n m x) (B : HB h) (hn : n ≤ 1048575) :
    lim Tryz.prog cfg 20 [.ptr i 0] h = some (.list true 6 (ses (sessionsP x.s)), h) := by
  have H2 := H.app [DObj.cells [.mp k]]
  have q1 := skeys_lim (h := h) k
  have hi3 : (h ++ [DObj.cells [.mp k]])[h.length]? = some (.cells [.mp k]) := by simp
  have q2 := ssorted_lim (h := h ++ [DObj.cells [.mp k]]) O hn hi3 H2.s
  have hgc : (below h.length (.list true 6 (ses (sessionsP x.s))) && ((h ++ [DObj.cells [.mp k]]).take h.length).all (belowO h.length)) = true ∧ h.length ≤ (h ++ [DObj.cells [.mp k]]).length ∧ (h ++ [DObj.cells [.mp k]]).take h.length = h := by
    have e1 : (h ++ [DObj.cells [.mp k]]).take h.length = h := by simp
    have e2 := B
    unfold HB at e2
    refine ⟨?_, by simp, e1⟩
    rw [e1, e2]
    simp only [below, below_ses, Bool.and_self]
  refine lim_fung fun20 rfl rfl (by simp) rfl ?_
  delta cd20
  simp -implicitDefEqProofs -dsimp only [go_sem, H.obj, q1, q2]
  have hS : (sortI (keys x.s)).length ≤ 1048576 := by rw [sortI_len, keys_len]; have := O.len; omega
  refine wp_for (σ := Nat) (fun q => [(0, .ptr i 0), (3, .list true 6 (ses ((sessionsP x.s).take q))), (11, .list true 1 (vnums (sortI (keys x.s)))), (12, vi ((sortI (keys x.s)).length : Nat)), (13, vi (q : Nat))]) (fun _ => h ++ [DObj.cells [.mp k]]) (fun q => (sortI (keys x.s)).length - q) (fun q => q ≤ (sortI (keys x.s)).length) 0 (Nat.zero_le _) rfl rfl ?_
  rintro q hq N hN
  by_cases k4 : q < (sortI (keys x.s)).length
  · have k5 : (q : Int) < ((sortI (keys x.s)).length : Int) := by omega
    have hmem : (sortI (keys x.s))[q] ∈ keys x.s := sortI_mem.1 (List.getElem_mem k4)
    obtain ⟨v, hv⟩ := Option.isSome_iff_exists.1 (aget_iff.2 hmem)
    have hL : (sessionsP x.s).length = (sortI (keys x.s)).length := by simp [sessionsP]
    have hmx : (((sessionsP x.s).take q).length + 1) * 79 ≤ maxLenD := by rw [List.length_take]; unfold maxLenD; omega
    have hnx : (sessionsP x.s).take (q + 1) = (sessionsP x.s).take q ++ [((sortI (keys x.s))[q], v)] := by
      rw [List.take_succ_eq_append_getElem (by omega)]
      simp [sessionsP, hv]
    have hnm := O.names _ (aget_mem hv)
    have q3 := fun h' => sown_lim (h := h') v.2 (by have := hnm.1; simp only at this; omega)
    have hfd := find_seen (sortI (keys x.s))[q] x.s
    rw [hv] at hfd
    simp only [Option.map_some] at hfd
    simp -implicitDefEqProofs -dsimp (maxSteps := 600000) only [go_sem, wp_RD, k4, k5, H2.obj, H2.map, hfd, Option.getD_some, q3, hmx]
    refine hN (q + 1) _ (by omega) (by omega) ?_
    simp -implicitDefEqProofs -dsimp only [go_sem, wrap_succ (show q < 9223372036854775807 by omega), hnx]
  · have k5 : ¬ (q : Int) < ((sortI (keys x.s)).length : Int) := by omega
    have hL : (sessionsP x.s).take q = sessionsP x.s := List.take_of_length_le (by simp [sessionsP]; omega)
    simp -implicitDefEqProofs -dsimp only [go_sem, k5, hL]
    exact hgc
end Go.DS

/-
  Walks: sessions: Of, Clone, Paths, and the law's Same.
-/
namespace Go.DS
open Go Go.Proofs
set_option maxRecDepth 100000
set_option linter.unusedVariables false
set_option linter.unusedSimpArgs false
def cd18 : Cd := .seq (R [c0 4 (.tk (.c (.sc (.pointer none)))), c0 5 (.tk (.c (ki .i64 0)))] [0, 1, 10, 22]) (.seq (R [c0 12 (.mv (.s 0)), c0 13 (.call none (.c (kf 38)) [(.s 12)]), c0 11 (.tk (.s 13)), c0 14 (.exh (.s 11)), c0 15 (.ext (.s 11) 1), c0 6 (.tk (.s 14)), c0 7 (.tk (.s 15))] [1, 6, 7, 10, 22]) (.seq (.seq (R [c0 16 (.mv (.s 7)), cb 17 (.bin .neq .any (.s 16) (.c (ki .i64 0)))] [1, 6, 7, 10, 17, 22]) (.ite (.s 17) (.seq (R [c0 18 (.tk (.s 7)), c0 4 (.tk (.c (.sc (.pointer none)))), c0 5 (.tk (.s 18))] [4, 5, 10, 22]) (.ret)) (.skip))) (.seq (R [c0 19 (.mv (.s 6)), c0 20 (.mkm), c0 21 (.bld [.sc (.pointer none), .sc (.map none)] [(0, 1, (.s 19)), (1, 1, (.s 20))]), c0 22 (.new true (.s 21)), c0 8 (.tk (.s 22))] [1, 8, 10, 22]) (.seq (.seq (R [c0 23 (.mv (.s 1)), c0 24 (.len 1 (.s 23)), c0 25 (.mv (.c (ki .i64 0)))] [1, 8, 10, 22, 23, 24, 25]) (.block 0 (LP [1, 8, 10, 22, 23, 24, 25] (.seq (R [c0 26 (.bin .lss .any (.s 25) (.s 24))] [1, 8, 10, 22, 23, 24, 25, 26]) (.seq (.ite (.s 26) (.skip) (.exit 0)) (.seq (.block 1 (.seq (R [c0 27 (.tk (.s 25)), c0 28 (.ixp 6 (.s 23) (.s 25)), c0 29 (.ldx false true 6 (.s 28)), c0 10 (.new false (.c (.agg [ki .i64 0, ki .i64 0, ki .i64 0, ks [], ki .i64 0, kn 1]))), c0 9 (.tk (.s 27)), cn (.st 6 (.s 10) (.s 29))] [1, 8, 9, 10, 22, 23, 24, 25]) (.seq (.seq (RD (cd (some 30) false none (.mov 0 (.s 10)) false false [10] :: cd (some 31) false none (.ld false 1 (.s 30)) false false [30] :: cd (some 32) false none (.mov 1 (.s 10)) false false [10] :: cd (some 33) false none (.ld false 1 (.s 32)) false false [32] :: cd (some 34) false none (.bld [ki .i64 0, ki .i64 0, ki .i64 0, ks [], ks [], ki .i64 0, ki .i64 0, ki .i64 0] [(0, 1, (.s 31)), (1, 1, (.s 33))]) false false [31, 33] :: cd (some 35) true none (.call none (.c (kf 12)) [(.s 34)]) false false [34] :: cd (some 36) true none (.un .not (.s 35)) false false [35] :: cd (some 37) true none (.mv (.s 36)) false false [36] :: cd (some 38) false (some (37, false)) (.mv (.s 9)) false false [9] :: cd (some 39) true (some (37, false)) (.bin .gtr .any (.s 38) (.c (ki .i64 0))) false false [38] :: cd (some 40) true (some (37, false)) (.mv (.s 39)) false false [39] :: cd (some 41) false (some (40, true)) (.mv (.s 1)) false false [1] :: cd (some 42) false (some (40, true)) (.mv (.s 9)) false false [9] :: cd (some 43) false (some (40, true)) (.bin .sub .any (.s 42) (.c (ki .i64 1))) false false [42] :: cd (some 44) false (some (40, true)) (.ixp 6 (.s 41) (.s 43)) false false [41, 43] :: cd (some 45) false (some (40, true)) (.mov 0 (.s 44)) false false [44] :: cd (some 46) false (some (40, true)) (.ld false 1 (.s 45)) false false [45] :: cd (some 47) false (some (40, true)) (.mov 0 (.s 10)) false false [10] :: cd (some 48) false (some (40, true)) (.ld false 1 (.s 47)) false false [47] :: cd (some 49) true (some (40, true)) (.bin .geq .any (.s 46) (.s 48)) false false [46, 48] :: cd (some 50) true (some (37, false)) (.pick (.s 40) (.s 49) (.c (kb false))) false false [40, 49] :: cd (some 51) true none (.pick (.s 37) (.c (kb true)) (.s 50)) false false [37, 50] :: []) [1, 8, 10, 22, 23, 24, 25, 51] []) (.ite (.s 51) (.seq (R [c0 4 (.tk (.c (.sc (.pointer none)))), c0 5 (.tk (.c (ki .i64 1)))] [4, 5, 10, 22]) (.ret)) (.skip))) (RD [cd (some 52) false none (.mv (.s 8)) false false [8], cd (some 53) false none (.mov 0 (.s 52)) false false [52], cd (some 54) false none (.mov 1 (.s 53)) false false [53], cd (some 55) false none (.ld false 1 (.s 54)) false false [54], cd (some 56) false none (.mov 0 (.s 10)) false false [10], cd (some 57) false none (.ld false 1 (.s 56)) false false [56], cd (some 58) false none (.mov 1 (.s 10)) false false [10], cd (some 59) false none (.ld false 1 (.s 58)) false false [58], cd (some 60) false none (.mov 2 (.s 10)) false false [10], cd (some 61) false none (.ld true 4 (.s 60)) false false [60], cd (some 62) false none (.call none (.c (kf 32)) [(.s 61)]) false false [61], cd (some 63) false none (.bld [ki .i64 0, ki .i64 0, ks [], ki .i64 0, kz 1] [(0, 1, (.s 59)), (1, 4, (.s 62))]) false false [59, 62], cd none false none (.mup [0] false 1 (.s 55) (.s 57) (.s 63)) false false [55, 57, 63]] [1, 8, 10, 22, 23, 24, 25] [])))) (R [c0 64 (.bin .add .any (.s 25) (.c (ki .i64 1))), c0 25 (.mv (.s 64))] [1, 8, 10, 22, 23, 24, 25]))))))) (.seq (R [c0 65 (.tk (.s 8)), c0 4 (.tk (.s 65)), c0 5 (.tk (.c (ki .i64 0)))] [4, 5, 10, 22]) (.ret))))))
theorem fun18 : Fun Tryz.prog cfg 18 66 cd18 [.s 4, .s 5] := ⟨rfl, Tryz.f18, _, Tryz.func18, rfl, rfl, by kernel_rfl, by kernel_rfl⟩
@[go_sem] theorem ok18 : calleeOK Tryz.prog 18 = true := by kernel_rfl
@[go_sem] theorem ex18 : (cfg.ext 18).isSome = false := rfl
def cd10 : Cd := .seq (R [cb 0 (.tk (.c (kb false)))] [2, 3, 4]) (.seq (R [c0 7 (.call none (.c (kf 13)) []), c0 1 (.tk (.s 7))] [1, 2, 3, 4]) (.seq (.seq (R [c0 8 (.mv (.s 1)), cb 9 (.bin .eql .ptr (.s 8) (.c (.sc (.pointer none))))] [1, 2, 3, 4, 9]) (.ite (.s 9) (.seq (R [cb 0 (.tk (.c (kb false)))] [0, 2, 3, 4]) (.ret)) (.skip))) (.seq (R [c0 10 (.bld [ki .i64 0, ki .i64 0, ki .i64 0, ks [], ks [], ki .i64 0, ki .i64 0, ki .i64 0] [(0, 1, (.c (ki .i64 1))), (1, 1, (.c (ki .i64 1))), (2, 1, (.c (ki .i64 1))), (3, 1, (.c (ks [47, 97])))]), c0 2 (.new false (.c (.agg [ki .i64 0, ki .i64 0, ki .i64 0, ks [], ks [], ki .i64 0, ki .i64 0, ki .i64 0]))), cn (.st 8 (.s 2) (.s 10))] [1, 2, 3, 4]) (.seq (R [c0 11 (.mv (.s 1)), c0 12 (.ld true 8 (.s 2)), c0 13 (.bld [ki .i64 0, ks [], ki .i64 0, kz 1] []), c0 14 (.call none (.c (kf 14)) [(.s 11), (.s 12), (.s 13)]), c0 3 (.new false (.c (.agg [ki .i64 0, ks [], ki .i64 0, kn 1]))), cn (.st 4 (.s 3) (.s 14))] [1, 2, 3, 4]) (.seq (R [c0 15 (.mv (.s 1)), c0 16 (.ld true 8 (.s 2)), c0 17 (.bld [ki .i64 0, ks [], ki .i64 0, kz 1] []), c0 18 (.call none (.c (kf 14)) [(.s 15), (.s 16), (.s 17)]), c0 4 (.new false (.c (.agg [ki .i64 0, ks [], ki .i64 0, kn 1]))), cn (.st 4 (.s 4) (.s 18))] [1, 2, 3, 4]) (.seq (R [c0 20 (.mv (.s 1)), c0 21 (.call none (.c (kf 19)) [(.s 20)]), c0 22 (.mv (.s 1)), c0 23 (.call none (.c (kf 20)) [(.s 22)]), c0 24 (.call none (.c (kf 18)) [(.s 21), (.s 23)]), c0 19 (.tk (.s 24)), c0 25 (.exh (.s 19)), c0 26 (.ext (.s 19) 1), c0 5 (.tk (.s 25)), c0 6 (.tk (.s 26))] [1, 2, 3, 4, 5, 6]) (.seq (R (c0 27 (.mov 2 (.s 3)) :: c0 28 (.ld false 1 (.s 27)) :: cb 29 (.bin .eql .any (.s 28) (.c (ki .i64 1))) :: cb 30 (.mv (.s 29)) :: cg 31 30 true (.mov 2 (.s 4)) :: cg 32 30 true (.ld false 1 (.s 31)) :: ch 33 30 true (.bin .eql .any (.s 32) (.c (ki .i64 1))) :: cb 34 (.pick (.s 30) (.s 33) (.c (kb false))) :: cb 35 (.mv (.s 34)) :: cg 36 35 true (.mov 0 (.s 3)) :: cg 37 35 true (.ld false 1 (.s 36)) :: ch 38 35 true (.bin .eql .any (.s 37) (.c (ki .i64 0))) :: cb 39 (.pick (.s 35) (.s 38) (.c (kb false))) :: cb 40 (.mv (.s 39)) :: cg 41 40 true (.mov 0 (.s 4)) :: cg 42 40 true (.ld false 1 (.s 41)) :: ch 43 40 true (.bin .eql .any (.s 42) (.c (ki .i64 0))) :: cb 44 (.pick (.s 40) (.s 43) (.c (kb false))) :: cb 45 (.mv (.s 44)) :: cg 46 45 true (.mv (.s 1)) :: cg 47 45 true (.call none (.c (kf 19)) [(.s 46)]) :: cg 48 45 true (.len 1 (.s 47)) :: ch 49 45 true (.bin .eql .any (.s 48) (.c (ki .i64 1))) :: cb 50 (.pick (.s 45) (.s 49) (.c (kb false))) :: cb 51 (.mv (.s 50)) :: cg 52 51 true (.mv (.s 1)) :: cg 53 51 true (.call none (.c (kf 20)) [(.s 52)]) :: cg 54 51 true (.len 1 (.s 53)) :: ch 55 51 true (.bin .eql .any (.s 54) (.c (ki .i64 1))) :: cb 56 (.pick (.s 51) (.s 55) (.c (kb false))) :: cb 57 (.mv (.s 56)) :: cg 58 57 true (.mv (.s 5)) :: ch 59 57 true (.bin .neq .ptr (.s 58) (.c (.sc (.pointer none)))) :: cb 60 (.pick (.s 57) (.s 59) (.c (kb false))) :: cb 61 (.mv (.s 60)) :: cg 62 61 true (.mv (.s 6)) :: ch 63 61 true (.bin .eql .any (.s 62) (.c (ki .i64 0))) :: cb 64 (.pick (.s 61) (.s 63) (.c (kb false))) :: cb 65 (.mv (.s 64)) :: cg 66 65 true (.ld true 8 (.s 2)) :: ch 67 65 true (.call none (.c (kf 12)) [(.s 66)]) :: cb 68 (.pick (.s 65) (.s 67) (.c (kb false))) :: cb 69 (.mv (.s 68)) :: cg 70 69 true (.mv (.s 1)) :: cg 71 69 true (.call none (.c (kf 15)) [(.s 70)]) :: ch 72 69 true (.bin .neq .ptr (.s 71) (.c (.sc (.pointer none)))) :: cb 73 (.pick (.s 69) (.s 72) (.c (kb false))) :: cb 0 (.tk (.s 73)) :: []) [0, 2, 3, 4]) (.ret))))))))
theorem fun10 : Fun Tryz.prog cfg 10 74 cd10 [.s 0] := ⟨rfl, Tryz.f10, _, Tryz.func10, rfl, rfl, by kernel_rfl, by kernel_rfl⟩
@[go_sem] theorem ok10 : calleeOK Tryz.prog 10 = true := by kernel_rfl
@[go_sem] theorem ex10 : (cfg.ext 10).isSome = false := rfl
variable {h : DHeap}
abbrev hS (h : DHeap) (x : Mach) : DHeap := h ++ [dirM x.d, .cells [.mp h.length], seenM x.s, .cells [.ptr (h.length + 1) 0, .mp (h.length + 2)]]
theorem atS_new (h : DHeap) (x : Mach) : AtS (hS h x) (h.length + 3) (h.length + 1) h.length (h.length + 2) x := by
  refine ⟨?_, ⟨?_, ?_⟩, ?_, by omega⟩ <;> (rw [List.getElem?_append_right (by omega)]; simp)
theorem hS_set (h : DHeap) (x y : Mach) : setS (hS h x) h.length (h.length + 2) y = hS h y := by
  unfold setS hS
  rw [List.set_append, if_neg (by omega), List.set_append, if_neg (by omega)]
  simp
theorem hS_setk (h : DHeap) (x : Mach) (s : Seens) : (hS h x).set (h.length + 2) (seenM s) = hS h ⟨x.d, s⟩ := by
  unfold hS
  rw [List.set_append, if_neg (by omega)]
  simp
theorem spaths_lim {i d j k n m : Nat} {x : Mach} (H : AtS h i d j k x) (O : SessOK n m x) (B : HB h) (hn : n ≤ 1048575) : lim Tryz.prog cfg 19 [.ptr i 0] h = some (.list true 3 (eds (entriesP x.d)), h) := by
  have q := entries_lim H.d O.dir B (by omega)
  refine lim_fun fun19 rfl (by simp) rfl ?_
  delta cd19
  simp -implicitDefEqProofs -dsimp only [go_sem, H.obj, q]
theorem smach_lim {i d j k : Nat} {x : Mach} (H : AtS h i d j k x) : lim Tryz.prog cfg 15 [.ptr i 0] h = some (.ptr (h.length + 3) 0, hS h x) := by
  refine lim_ext rfl ?_ rfl
  show mclF [.ptr i 0] h = _
  simp only [mclF, H.o, H.d.d, H.d.m, H.s]
section
attribute [-go_sem] wp_RD
theorem wp_aside9 {P : Program} {C : Cfg} {n : Nat} {c : Cd} {a : AF} {h : DHeap} {Q : XD → AF → DHeap → Prop} (H : ∀ Q' : XD → AF → DHeap → Prop, (∀ e a h, Q e a h → Q' e a h) → WP P C n c a h Q') : WP P C n c a h Q := H Q fun _ _ _ q => q
set_option maxHeartbeats 4000000 in
theorem srow_lim (o1 o2 : Bool) (l m : Seens) (hl : l.length ≤ 1048576) (hn : ∀ e ∈ l, e.2.2.names.length ≤ 1048576) : lim Tryz.prog cfg 37 [.list o1 6 (ses l), .list o2 6 (ses m)] h = some (vb (decide (l = m)), h) := by
  refine lim_funp fun37 rfl (by simp) (by simp [heapFree, free_ses]) rfl ?_
  delta cd37
  by_cases h1 : (l.length : Int) = (m.length : Int)
  · have hlen : l.length = m.length := by omega
    simp -implicitDefEqProofs -dsimp only [go_sem, h1]
    refine wp_for (σ := Nat) (fun k => [(0, .list false 6 (ses l)), (1, .list false 6 (ses m)), (5, vi (k : Nat))]) (fun _ => []) (fun k => l.length - k) (fun k => k ≤ l.length ∧ l.take k = m.take k) 0 (by simp) rfl rfl ?_
    rintro k ⟨hk, hj⟩ N hN
    by_cases hlt : k < l.length
    · have h2 : (k : Int) < (l.length : Int) := by omega
      have h2' : (k : Int) < (m.length : Int) := by omega
      have hltm : k < m.length := by omega
      have sm := same_lim (h := []) false false l[k].2.2 m[k].2.2 (hn _ (List.getElem_mem hlt))
      simp -implicitDefEqProofs -dsimp (maxSteps := 1000000) only [go_sem, h2, h2']
      refine wp_aside9 fun Q hQ => ?_
      suffices hq : Q .normal [(0, .list false 6 (ses l)), (1, .list false 6 (ses m)), (5, vi (k : Nat)), (6, vb (decide (l[k].2.2 = m[k].2.2)))] [] by
        simp -implicitDefEqProofs -dsimp (maxSteps := 1000000) only [go_sem, wp_RD, hlt, hltm, sm, ses_get, nat_nn9]
        exact ⟨fun e => by rw [decide_eq_true e] at hq; exact hq, fun e => by rw [decide_eq_false e] at hq; exact hq⟩
      refine hQ _ _ _ ?_
      simp -implicitDefEqProofs -dsimp (maxSteps := 1000000) only [go_sem]
      refine wp_aside9 fun Q hQ => ?_
      have heq : (l[k] = m[k]) ↔ l[k].1 = m[k].1 ∧ l[k].2.1 = m[k].2.1 ∧ l[k].2.2 = m[k].2.2 := by rw [Prod.ext_iff, Prod.ext_iff]
      suffices hq : Q .normal [(0, .list false 6 (ses l)), (1, .list false 6 (ses m)), (5, vi (k : Nat)), (56, vb (!decide (l[k] = m[k])))] [] by
        by_cases e1 : l[k].1 = m[k].1
        · by_cases e2 : l[k].2.1 = m[k].2.1
          · by_cases e3 : l[k].2.2 = m[k].2.2
            · rw [decide_eq_true (heq.2 ⟨e1, e2, e3⟩)] at hq
              rw [decide_eq_true e3]
              simp -implicitDefEqProofs -dsimp (maxSteps := 1000000) only [go_sem, wp_RD, hlt, hltm, e1, e2, ses_get, nat_nn9]
              exact hq
            · rw [decide_eq_false (fun e => e3 (heq.1 e).2.2)] at hq
              rw [decide_eq_false e3]
              simp -implicitDefEqProofs -dsimp (maxSteps := 1000000) only [go_sem, wp_RD, hlt, hltm, e1, e2, ses_get, nat_nn9]
              exact hq
          · rw [decide_eq_false (fun e => e2 (heq.1 e).2.1)] at hq
            simp -implicitDefEqProofs -dsimp (maxSteps := 1000000) only [go_sem, wp_RD, hlt, hltm, e1, e2, ses_get, nat_nn9]
            exact hq
        · rw [decide_eq_false (fun e => e1 (heq.1 e).1)] at hq
          simp -implicitDefEqProofs -dsimp (maxSteps := 1000000) only [go_sem, wp_RD, hlt, hltm, e1, ses_get, nat_nn9]
          exact hq
      refine hQ _ _ _ ?_
      by_cases he : l[k] = m[k]
      · rw [decide_eq_true he]
        simp -implicitDefEqProofs -dsimp (maxSteps := 1000000) only [go_sem, Bool.not_true]
        refine hN (k + 1) _ (by omega) ⟨by omega, by rw [List.take_succ_eq_append_getElem hlt, List.take_succ_eq_append_getElem hltm, hj, he]⟩ ?_
        simp -implicitDefEqProofs -dsimp only [go_sem, wrap_succ (show k < 9223372036854775807 by omega)]
      · rw [decide_eq_false he]
        have : l ≠ m := fun e => by subst e; exact he rfl
        simp -implicitDefEqProofs -dsimp (maxSteps := 1000000) only [go_sem, Bool.not_false]
        simp [this]
    · have h2 : ¬ (k : Int) < (l.length : Int) := by omega
      have h2' : ¬ (k : Int) < (m.length : Int) := by omega
      have : k = l.length := by omega
      subst this
      rw [List.take_length, hlen, List.take_length] at hj
      simp -implicitDefEqProofs -dsimp only [go_sem, h2, h2']
      simp [hj]
  · have : l ≠ m := fun e => by subst e; exact h1 rfl
    simp -implicitDefEqProofs -dsimp only [go_sem, h1]
    simp [this]
set_option maxHeartbeats 4000000 in
theorem sof_lim (own1 own2 : Bool) (es : List Ent) (l : Seens) (es' : Dir) (hl1 : es.length ≤ 1048576) (hs1 : ∀ e ∈ es, e.1.length ≤ 1048576) (hd : dirOfP none es [] = (true, es')) (hl : l.length ≤ 1048576)
    (hv : ∀ e ∈ l, (0 ≤ e.1 ∧ e.1 ≤ 1099511627776) ∧ (1 ≤ e.2.1 ∧ e.2.1 ≤ 1099511627776) ∧ e.2.2.names.length ≤ 1048576) (hr : (keys l).Pairwise fun a b => a < b) :
    lim Tryz.prog cfg 18 [.list own1 3 (eds es), .list own2 6 (ses l)] h = some (.tup [.ptr (h.length + 3) 0, vi 0], hS h ⟨es', l⟩) := by
  have q1 : ∀ own, lim Tryz.prog cfg 38 [.list own 3 (eds es)] h = some (.tup [.ptr (h.length + 1) 0, vi 0], h ++ [dirM es'] ++ [.cells [.mp h.length]]) := fun own => by
    have := dof_lim (h := h) own es hl1 hs1
    rw [hd] at this
    exact this
  have e0 : h ++ [dirM es'] ++ [DObj.cells [.mp h.length]] ++ [.map []] ++ [.cells [.ptr (h.length + 1) 0, .mp (h.length + 2)]] = hS h ⟨es', []⟩ := by simp [amap]
  refine lim_fun fun18 rfl (by simp) rfl ?_
  delta cd18
  simp -implicitDefEqProofs -dsimp (maxSteps := 1000000) only [go_sem, q1]
  refine wp_for (σ := Nat × DV) (fun s => [(1, .list false 6 (ses l)), (8, .ptr (h.length + 3) 0), (10, s.2), (22, .ptr (h.length + 3) 0), (23, .list false 6 (ses l)), (24, vi (l.length : Nat)), (25, vi (s.1 : Nat))]) (fun s => hS h ⟨es', l.take s.1⟩) (fun s => l.length - s.1) (fun s => s.1 ≤ l.length ∧ (s.2 = .junk ∨ ∃ cs, s.2 = .box cs)) (0, .junk) ⟨Nat.zero_le _, .inl rfl⟩ ?_ ?_ ?_
  · simp [keepA, look]
  · simp [amap]
  rintro ⟨k, z⟩ ⟨hk, hz⟩ N hN
  simp only at hk hz hN ⊢
  have HA := atS_new h ⟨es', l.take k⟩
  have hob := HA.obj
  have hmp := HA.map
  simp only at hmp
  by_cases hlt : k < l.length
  · have h1 : (k : Int) < (l.length : Int) := by omega
    have hve := hv _ (List.getElem_mem hlt)
    have qv : lim Tryz.prog cfg 12 [.agg [vi l[k].1, vi l[k].2.1, vi 0, vs [], vs [], vi 0, vi 0, vi 0]] (hS h ⟨es', l.take k⟩) = some (vb true, hS h ⟨es', l.take k⟩) := by
      have := svalid_lim (h := hS h ⟨es', l.take k⟩) ⟨l[k].1, l[k].2.1, 0, [], [], 0, 0, 0⟩
      rw [show validB ⟨l[k].1, l[k].2.1, 0, [], [], 0, 0, 0⟩ = true from valid_iff'.2 ⟨hve.1.1, hve.1.2, hve.2.1.1, hve.2.1.2⟩] at this
      exact this
    have qo := sown_lim (h := hS h ⟨es', l.take k⟩) l[k].2.2 hve.2.2
    have hnew : l[k].1 ∉ keys (l.take k) := fun hc => by
      obtain ⟨e, he, e1⟩ := List.mem_map.1 hc
      obtain ⟨j, hj, rfl⟩ := List.getElem_of_mem he
      rw [List.length_take] at hj
      have := List.pairwise_iff_getElem.1 hr j k (by rw [keys_len]; omega) (by rw [keys_len]; exact hlt) (by omega)
      simp only [keys, List.getElem_map, List.getElem_take] at this e1
      omega
    have hset : setKey [0] (vi l[k].1) (seenV l[k].2) (amap vi seenV (l.take k)) = some (amap vi seenV (l.take (k + 1))) := by
      have := set_amap (V := seenV) (eqK_int .i64) l[k].1 l[k].2 (l.take k)
      rw [aset_new' hnew] at this
      rw [List.take_succ_eq_append_getElem hlt]
      exact this
    have hsk := hS_setk h ⟨es', l.take k⟩ (l.take (k + 1))
    simp only at hsk
    generalize hH : hS h ⟨es', l.take k⟩ = H at *
    have main : ∀ Q : XD → AF → DHeap → Prop, True := fun _ => trivial
    rcases hz with rfl | ⟨cs, rfl⟩
    all_goals
      simp -implicitDefEqProofs -dsimp (maxSteps := 1000000) only [go_sem, h1, hlt]
      refine wp_aside9 fun Q hQ => ?_
      suffices hq : Q .normal [(1, .list false 6 (ses l)), (8, .ptr (h.length + 3) 0), (10, .box [vi l[k].1, vi l[k].2.1, vi l[k].2.2.err, vs l[k].2.2.value, vi l[k].2.2.version, .list false 1 (ts l[k].2.2.names)]), (22, .ptr (h.length + 3) 0), (23, .list false 6 (ses l)), (24, vi (l.length : Nat)), (25, vi (k : Nat)), (51, vb false)] H by
        by_cases i0 : k = 0
        · have i1 : ¬ (0 : Int) < (k : Int) := by omega
          simp -implicitDefEqProofs -dsimp (maxSteps := 1000000) only [go_sem, wp_RD, qv, i1]
          exact hq
        · obtain ⟨j, rfl⟩ : ∃ j, k = j + 1 := ⟨k - 1, by omega⟩
          have i1 : (0 : Int) < ((j + 1 : Nat) : Int) := by omega
          have hj : j < l.length := by omega
          have hw : IntKind.wrap .i64 (((j + 1 : Nat) : Int) - 1) = ((j : Nat) : Int) := by rw [wrap64 (by omega) (by omega)]; omega
          have hlt2 : ¬ l[j + 1].1 ≤ l[j].1 := by
            have := List.pairwise_iff_getElem.1 hr j (j + 1) (by rw [keys_len]; omega) (by rw [keys_len]; exact hlt) (by omega)
            simp only [keys, List.getElem_map] at this
            omega
          simp -implicitDefEqProofs -dsimp (maxSteps := 1000000) only [go_sem, wp_RD, qv, i1, hw, hlt, hj, hlt2, ses_get, nat_nn9]
          exact hq
      refine hQ _ _ _ ?_
      simp -implicitDefEqProofs -dsimp (maxSteps := 1000000) only [go_sem, wp_RD, hob, hmp, qo, hset, hsk]
      refine hN (k + 1, .box [vi l[k].1, vi l[k].2.1, vi l[k].2.2.err, vs l[k].2.2.value, vi l[k].2.2.version, .list false 1 (ts l[k].2.2.names)]) _ (by simp only; omega) ⟨by simp only; omega, .inr ⟨_, rfl⟩⟩ ?_
      simp -implicitDefEqProofs -dsimp only [go_sem, wrap_succ (show k < 9223372036854775807 by omega)]
  · have h1 : ¬ (k : Int) < (l.length : Int) := by omega
    have hkl : k = l.length := by omega
    subst hkl
    rw [List.take_length]
    rcases hz with rfl | ⟨cs, rfl⟩ <;> simp -implicitDefEqProofs -dsimp only [go_sem, h1]
end
theorem same9_lim {i d j k i' d' j' k' n m n' m' : Nat} {x y : Mach} (H1 : AtS h i d j k x) (H2 : AtS h i' d' j' k' y) (O1 : SessOK n m x) (O2 : SessOK n' m' y) (B : HB h) (hn : n ≤ 1048575) (hn' : n' ≤ 1048575) :
    lim Tryz.prog cfg 17 [.ptr i 0, .ptr i' 0] h = some (vb (decide (entriesP x.d = entriesP y.d) && decide (sessionsP x.s = sessionsP y.s)), h) := by
  have p1 := spaths_lim H1 O1 B hn
  have p2 := spaths_lim H2 O2 B hn'
  have s1 := ssessions_lim H1 O1 B hn
  have s2 := ssessions_lim H2 O2 B hn'
  have l1 := entries_len x.d
  have l2 := O1.dir.len
  have l3 := sessions_len x.s
  have l4 := O1.len
  have r1 := row_lim (h := h) false false (entriesP x.d) (entriesP y.d) (by omega)
  have r2 := srow_lim (h := h) false false (sessionsP x.s) (sessionsP y.s) (by omega) (fun e he => by have := (O1.names e (sessions_mem he)).1; omega)
  refine lim_fun fun17 rfl (by simp) rfl ?_
  delta cd17
  cases e1 : decide (entriesP x.d = entriesP y.d) with
  | true =>
    rw [e1] at r1
    simp -implicitDefEqProofs -dsimp (maxSteps := 600000) only [go_sem, p1, p2, s1, s2, r1, r2]
    simp
  | false =>
    rw [e1] at r1
    simp -implicitDefEqProofs -dsimp (maxSteps := 600000) only [go_sem, p1, p2, s1, s2, r1, r2]
    simp
theorem hb1 (x : Mach) : HB (hS [] x) := by
  unfold HB hS
  simp only [List.nil_append, List.all_cons, List.all_nil, below_dir, below_seen, Bool.and_true, Bool.true_and]
  rfl
theorem hb2 (x y : Mach) : HB (hS (hS [] x) y) := by
  unfold HB hS
  simp only [List.nil_append, List.cons_append, List.all_cons, List.all_nil, below_dir, below_seen, Bool.and_true, Bool.true_and]
  rfl
theorem at1 (x : Mach) : AtS (hS [] x) 3 1 0 2 x := atS_new [] x
theorem at21 (x y : Mach) : AtS (hS (hS [] x) y) 3 1 0 2 x := ⟨rfl, ⟨rfl, rfl⟩, rfl, by decide⟩
theorem at22 (x y : Mach) : AtS (hS (hS [] x) y) 7 5 4 6 y := atS_new (hS [] x) y
abbrev x0 : Mach := ⟨[], []⟩
theorem snew0 : lim Tryz.prog cfg 13 [] [] = some (.ptr 3 0, hS [] x0) := snew_lim
theorem sap1 {n m : Nat} {x : Mach} (O : SessOK n m x) (hn : n ≤ 1048575) (hm : m ≤ 4611686018427387903) (c : Cmd) (o : Bool) (ctl : Rep) (hp : c.path.length ≤ 1099511627776) (hc : ctl.names.length ≤ 1048576) :
    lim Tryz.prog cfg 14 [.ptr 3 0, cmdD c, .agg [vi ctl.err, vs ctl.value, vi ctl.version, .list o 1 (ts ctl.names)]] (hS [] x) = some (repD (sessP x c ctl).1, hS [] (sessP x c ctl).2) :=
  sapply_lim (at1 x) O (hb1 x) hn hm c o ctl hp hc
theorem sap21 {n m : Nat} {x : Mach} (y : Mach) (O : SessOK n m x) (hn : n ≤ 1048575) (hm : m ≤ 4611686018427387903) (c : Cmd) (o : Bool) (ctl : Rep) (hp : c.path.length ≤ 1099511627776) (hc : ctl.names.length ≤ 1048576) :
    lim Tryz.prog cfg 14 [.ptr 3 0, cmdD c, .agg [vi ctl.err, vs ctl.value, vi ctl.version, .list o 1 (ts ctl.names)]] (hS (hS [] x) y) = some (repD (sessP x c ctl).1, hS (hS [] (sessP x c ctl).2) y) :=
  sapply_lim (at21 x y) O (hb2 x y) hn hm c o ctl hp hc
theorem sap22 {n m : Nat} {y : Mach} (x : Mach) (O : SessOK n m y) (hn : n ≤ 1048575) (hm : m ≤ 4611686018427387903) (c : Cmd) (o : Bool) (ctl : Rep) (hp : c.path.length ≤ 1099511627776) (hc : ctl.names.length ≤ 1048576) :
    lim Tryz.prog cfg 14 [.ptr 7 0, cmdD c, .agg [vi ctl.err, vs ctl.value, vi ctl.version, .list o 1 (ts ctl.names)]] (hS (hS [] x) y) = some (repD (sessP y c ctl).1, hS (hS [] x) (sessP y c ctl).2) :=
  sapply_lim (at22 x y) O (hb2 x y) hn hm c o ctl hp hc
/-- The document's example. -/
abbrev c9 : Cmd := ⟨1, 1, 1, [47, 97], [], 0, 0, 0⟩
abbrev x1 : Mach := ⟨[([47, 97], ([], 1))], [(1, (1, { version := 1 }))]⟩
theorem sess9 : sessP x0 c9 {} = ({ version := 1 }, x1) := by
  simp [sessP, validB, seenP, aget, controlB, applyP, rightB, parse_a, createP, thereB, parent_a, aset]
theorem sess9' : sessP x1 c9 {} = ({ version := 1 }, x1) := by
  simp [sessP, validB, seenP, aget]
theorem ok9 : SessOK 1 1 x1 := by
  have := sess_ok (sessOK_nil 0 0) c9 (ctl := {}) ⟨Nat.le_refl _, by simp⟩
  rw [sess9] at this
  exact this
theorem works9_lim : lim Tryz.prog cfg 10 [] h = some (vb true, h) := by
  refine lim_funp fun10 rfl (by simp) rfl rfl ?_
  delta cd10
  have q0 := snew0
  have q1 : lim Tryz.prog cfg 14 [.ptr 3 0, cmdD c9, .agg [vi 0, vs [], vi 0, .list false 1 []]] (hS [] x0) = some (repD { version := 1 }, hS [] x1) := by
    have := sap1 (sessOK_nil 0 0) (by omega) (by omega) c9 false {} (by decide) (by decide)
    rw [sess9] at this
    exact this
  have q2 : lim Tryz.prog cfg 14 [.ptr 3 0, cmdD c9, .agg [vi 0, vs [], vi 0, .list false 1 []]] (hS [] x1) = some (repD { version := 1 }, hS [] x1) := by
    have := sap1 ok9 (by omega) (by omega) c9 false {} (by decide) (by decide)
    rw [sess9'] at this
    exact this
  have e1 : entriesP x1.d = x1.d := by simp [entriesP, keys, sortC, aget]
  have e2 : sessionsP x1.s = x1.s := by simp [sessionsP, keys, sortI, aget]
  have e3 : dirOfP none x1.d [] = (true, x1.d) := by simp [dirOfP, badE, depth_a, thereB, parent_a, aset]
  have q3 := spaths_lim (at1 x1) ok9 (hb1 x1) (by omega)
  have q4 := ssessions_lim (at1 x1) ok9 (hb1 x1) (by omega)
  rw [e1] at q3
  rw [e2] at q4
  have q5 : ∀ o1 o2, lim Tryz.prog cfg 18 [.list o1 3 (eds x1.d), .list o2 6 (ses x1.s)] (hS [] x1) = some (.tup [.ptr 7 0, vi 0], hS (hS [] x1) x1) := fun o1 o2 =>
    sof_lim (h := hS [] x1) o1 o2 x1.d x1.s x1.d (by decide) (by simp) e3 (by decide) (by simp) (by simp [keys])
  have q6 := spaths_lim (at21 x1 x1) ok9 (hb2 x1 x1) (by omega)
  have q7 := ssessions_lim (at21 x1 x1) ok9 (hb2 x1 x1) (by omega)
  rw [e1] at q6
  rw [e2] at q7
  have q8 := svalid_lim (h := hS (hS [] x1) x1) c9
  rw [show validB c9 = true from rfl] at q8
  have q9 : lim Tryz.prog cfg 15 [.ptr 3 0] (hS (hS [] x1) x1) = some (.ptr 11 0, hS (hS (hS [] x1) x1) x1) := smach_lim (at21 x1 x1)
  generalize hS (hS (hS [] x1) x1) x1 = H3 at q9
  generalize hS (hS [] x1) x1 = H2 at *
  generalize hS [] x1 = H1 at *
  generalize hS [] x0 = H0 at *
  simp -implicitDefEqProofs -dsimp (maxSteps := 600000) only [go_sem, wp_RD, q0, q1, q2, q3, q4, q5, q6, q7, q8, q9]
end Go.DS

/-
  Walks: one and two session machines in the heap.
-/
namespace Go.DS
open Go Go.Proofs
set_option maxRecDepth 100000
set_option linter.unusedVariables false
set_option linter.unusedSimpArgs false
theorem cms_get (l : List Cmd) (i : Nat) (h : i < (cms l).length) : (cms l)[i] = [vi (l[i]'(by simpa [cms] using h)).client, vi (l[i]'(by simpa [cms] using h)).seq, vi (l[i]'(by simpa [cms] using h)).op, vs (l[i]'(by simpa [cms] using h)).path, vs (l[i]'(by simpa [cms] using h)).value, vi (l[i]'(by simpa [cms] using h)).version, vi (l[i]'(by simpa [cms] using h)).a, vi (l[i]'(by simpa [cms] using h)).b] := by simp [cms]
def h1S (x : Mach) : DHeap := hS [] x
def h2S (x y : Mach) : DHeap := hS (hS [] x) y
theorem snew1 : lim Tryz.prog cfg 13 [] [] = some (.ptr 3 0, h1S x0) := snew0
theorem sa1 {n m : Nat} {x : Mach} (O : SessOK n m x) (hn : n ≤ 1048575) (hm : m ≤ 4611686018427387903) (c : Cmd) (v : Int) (hp : c.path.length ≤ 1048576) :
    lim Tryz.prog cfg 14 [.ptr 3 0, cmdD c, .agg [vi 0, vs [], vi v, .list false 1 []]] (h1S x) = some (repD (sessP x c { version := v }).1, h1S (sessP x c { version := v }).2) :=
  sap1 O hn hm c false { version := v } (by omega) (Nat.zero_le _)
theorem sa21 {n m : Nat} {x : Mach} (y : Mach) (O : SessOK n m x) (hn : n ≤ 1048575) (hm : m ≤ 4611686018427387903) (c : Cmd) (v : Int) (hp : c.path.length ≤ 1048576) :
    lim Tryz.prog cfg 14 [.ptr 3 0, cmdD c, .agg [vi 0, vs [], vi v, .list false 1 []]] (h2S x y) = some (repD (sessP x c { version := v }).1, h2S (sessP x c { version := v }).2 y) :=
  sap21 y O hn hm c false { version := v } (by omega) (Nat.zero_le _)
theorem sa22 {n m : Nat} {y : Mach} (x : Mach) (O : SessOK n m y) (hn : n ≤ 1048575) (hm : m ≤ 4611686018427387903) (c : Cmd) (v : Int) (hp : c.path.length ≤ 1048576) :
    lim Tryz.prog cfg 14 [.ptr 7 0, cmdD c, .agg [vi 0, vs [], vi v, .list false 1 []]] (h2S x y) = some (repD (sessP y c { version := v }).1, h2S x (sessP y c { version := v }).2) :=
  sap22 x O hn hm c false { version := v } (by omega) (Nat.zero_le _)
theorem scl1 (x : Mach) : lim Tryz.prog cfg 15 [.ptr 3 0] (h1S x) = some (.ptr 7 0, h2S x x) := smach_lim (at1 x)
theorem spa1 {n m : Nat} {x : Mach} (O : SessOK n m x) (hn : n ≤ 1048575) : lim Tryz.prog cfg 19 [.ptr 3 0] (h1S x) = some (.list true 3 (eds (entriesP x.d)), h1S x) := spaths_lim (at1 x) O (hb1 x) hn
theorem sse1 {n m : Nat} {x : Mach} (O : SessOK n m x) (hn : n ≤ 1048575) : lim Tryz.prog cfg 20 [.ptr 3 0] (h1S x) = some (.list true 6 (ses (sessionsP x.s)), h1S x) := ssessions_lim (at1 x) O (hb1 x) hn
theorem sse21 {n m : Nat} {x : Mach} (y : Mach) (O : SessOK n m x) (hn : n ≤ 1048575) : lim Tryz.prog cfg 20 [.ptr 3 0] (h2S x y) = some (.list true 6 (ses (sessionsP x.s)), h2S x y) := ssessions_lim (at21 x y) O (hb2 x y) hn
theorem ssame2 {n m n' m' : Nat} {x y : Mach} (O1 : SessOK n m x) (O2 : SessOK n' m' y) (hn : n ≤ 1048575) (hn' : n' ≤ 1048575) (hxy : SameM x y) : lim Tryz.prog cfg 17 [.ptr 3 0, .ptr 7 0] (h2S x y) = some (vb true, h2S x y) := by
  have := same9_lim (at21 x y) (at22 x y) O1 O2 (hb2 x y) hn hn'
  obtain ⟨q1, q2⟩ := SameM.rows O1 O2 hxy
  rw [q1, q2, decide_eq_true rfl, decide_eq_true rfl, Bool.and_self] at this
  exact this
theorem sof1 {n m : Nat} {x : Mach} (O : SessOK n m x) (hn : n ≤ 1048575) (o1 o2 : Bool) :
    lim Tryz.prog cfg 18 [.list o1 3 (eds (entriesP x.d)), .list o2 6 (ses (sessionsP x.s))] (h1S x) = some (.tup [.ptr 7 0, vi 0], h2S x ⟨entriesP x.d, sessionsP x.s⟩) := by
  have hle := O.dir.len
  have hls := O.len
  refine sof_lim (h := hS [] x) o1 o2 (entriesP x.d) (sessionsP x.s) (entriesP x.d) (by rw [entries_len]; omega) (fun e he => by obtain ⟨_, _, _, h, _⟩ := ents_path O.dir he; omega) (dirOf_entries O.dir) (by rw [sessions_len]; omega) ?_ (sessions_lt O.nodup)
  intro e he
  have := sessions_mem he
  exact ⟨O.client e this, O.seq e this, by have := (O.names e this).1; omega⟩
/-- All that comes, by an empty control reply. -/
abbrev sall (l : List Cmd) (v : Int) : Mach := sessAll x0 l { version := v }
theorem sall_ok (l : List Cmd) (v : Int) (k : Nat) (hk : k ≤ l.length) : SessOK k k (sall (l.take k) v) := by
  have := sessAll_ok (ctl := { version := v }) (n := 0) (m := 0) ⟨Nat.le_refl _, by simp⟩ (sessOK_nil 0 0) (l.take k)
  rw [List.length_take, Nat.min_eq_left hk, Nat.zero_add] at this
  exact this
theorem sall_snoc (l : List Cmd) (v : Int) (k : Nat) (hk : k < l.length) : sall (l.take (k + 1)) v = (sessP (sall (l.take k) v) l[k] { version := v }).2 := by
  rw [List.take_succ_eq_append_getElem hk]
  exact sessAll_snoc ..
end Go.DS

/-
  Arguments, opened: lists of texts.
-/
namespace Go.DS
open Go Go.Proofs Go.ChangeShapes Go.WideShapes Go.RowKit Go.Proofs.YthncbanajpiadaaGreat Go.Deep
set_option linter.unusedVariables false
set_option linter.unusedSimpArgs false

theorem own' : ownKnob Tryz.prog.godebug = none := by kernel_rfl
theorem laidOut' : laidOutB Tryz.prog = true := by kernel_rfl
theorem bulk_get {H : Type} : ∀ {l : List (DataW H)} {d : DataW H}, d ∈ l → Rows.uptoBulk d ≤ Rows.uptoBulkAll l
  | x :: l, d, h => by
    simp only [Rows.uptoBulkAll]
    rcases List.mem_cons.1 h with rfl | h
    · omega
    · have := bulk_get h; omega
theorem bulk_pos {H : Type} (d : DataW H) : 1 ≤ Rows.uptoBulk d := by
  cases d <;> try (simp [Rows.uptoBulk]; done)
  rename_i l; cases l <;> simp [Rows.uptoBulk]
theorem bulk_len {H : Type} : ∀ (l : List (DataW H)), l.length ≤ Rows.uptoBulkAll l
  | [] => Nat.le_refl _
  | d :: l => by
    have := bulk_len l
    have := bulk_pos d
    simp only [Rows.uptoBulkAll, List.length_cons]; omega

theorem strs_rel {H : Type} {enc : TypeId × Value → H} {P : Program} {W : World} {held : Bool} {t e : TypeId} {a : Option Addr} {len cap : Nat} {d : DataW H} {ps : List MemPlace} (ht : P.underlying t = some (.slice e)) (he : P.underlying e = some .string) (hc : P.cellsOf e = 1)
    (h : DataW.Trod enc P W 0 (fun _ => true) held t (.slice a len cap) d ps) :
    ∃ l : List Str, RelV (gh0 W) (.list false 1 (ts l)) (.slice a len cap) ∧ l.length < Rows.uptoBulk d ∧ ∀ s ∈ l, s.length < Rows.uptoBulk d := by
  obtain ⟨fuel, hf⟩ := h
  rcases open_strs ht he hc hf with ⟨hcs, hx⟩ | ⟨ad, len', cap', m, Sx, hcs, _, hl, hm, hmm, hx, hcell⟩
  · simp [Value.cells] at hcs
    obtain ⟨rfl, rfl, rfl⟩ := hcs
    refine ⟨[], .empty, ?_, by simp⟩
    exact bulk_pos d
  · simp [Value.cells] at hcs
    obtain ⟨rfl, rfl, rfl⟩ := hcs
    have hlm : len ≤ m := by rw [hmm]; simp; exact hl
    have hd : d = .slice ((List.range len).map fun i => .lit (.string (Sx i).data.toList)) ((List.range (m - len)).map fun j => .lit (.string (Sx (len + j)).data.toList)) := by
      simpa using congrArg Prod.fst hx
    refine ⟨(List.range len).map fun i => bs (Sx i), ?_, ?_, ?_⟩
    · have hts : ts ((List.range len).map fun i => bs (Sx i)) = (List.range len).map fun i => [DV.sc (.string (Sx i))] := by
        simp only [ts, List.map_map]; rfl
      have hfl : ((List.range len).map fun i => [DV.sc (.string (Sx i))]).flatten = (List.range len).map fun i => DV.sc (.string (Sx i)) := by
        generalize List.range len = r
        induction r with
        | nil => rfl
        | cons x r ih => simp only [List.map_cons, List.flatten_cons, ih]; rfl
      have hlen : ((List.range len).map fun i => [DV.sc (.string (Sx i))]).length = len := by simp
      obtain ⟨b, off, g⟩ := ad
      show RelV (gh0 W) (.list false 1 (ts _)) _
      rw [hts]
      by_cases hz : len = 0
      · subst hz
        exact .empty
      · have hgn : g = none := by
          have := (hcell 0 (by omega)).1
          cases g with
          | none => rfl
          | some _ =>
            simp [World.cell?, Addr.add] at this
            split at this <;> simp at this
        subst hgn
        have hg : ∀ i, i < m → W.cell? ⟨b, off + i, none⟩ = some (.string (Sx i)) := fun i hi => by
          have := (hcell i hi).1
          by_cases hi0 : i = 0
          · subst hi0; simpa [Addr.add] using this
          · simpa [Addr.add, hi0] using this
        have := RelV.list (g := gh0 W) (own := false) (es := 1) (l := (List.range len).map fun i => [DV.sc (.string (Sx i))]) (cap := cap) (b := b) (off := off) (vs := (List.range len).map fun i => Value.string (Sx i)) (by simpa using hl) (by simp)
          (by rw [hfl]; simp) (by
            rw [hfl]
            intro k x v hx hv
            rw [List.getElem?_map] at hx hv
            cases hr : (List.range len)[k]? with
            | none => rw [hr] at hx; cases hx
            | some i => rw [hr] at hx hv; cases hx; cases hv; exact .sc _) (by
            intro k v hv
            rw [List.getElem?_map] at hv
            cases hr : (List.range len)[k]? with
            | none => rw [hr] at hv; cases hv
            | some i =>
              rw [hr] at hv; cases hv
              obtain ⟨hk, rfl⟩ := List.getElem?_eq_some_iff.1 hr
              simp only [List.getElem_range]
              simp only [List.length_range] at hk
              exact gh0_pc (hg k (by omega)) rfl)
        rwa [hlen] at this
    · rw [hd]
      have := bulk_len ((List.range len).map fun i => (DataW.lit (.string (Sx i).data.toList) : DataW H))
      simp only [Rows.uptoBulk, List.length_map, List.length_range] at this ⊢
      omega
    · intro s hs
      obtain ⟨i, hi, rfl⟩ := List.mem_map.1 hs
      have := bulk_get (H := H) (List.mem_map_of_mem (f := fun i => (DataW.lit (.string (Sx i).data.toList) : DataW H)) hi)
      rw [hd]
      simp only [Rows.uptoBulk] at this ⊢
      show (Sx i).data.toList.length < _
      omega
end Go.DS

/-
  Arguments of any plain type, opened: texts, numbers, truth values, slices and structs of them.
-/
namespace Go.DS
open Go Go.Proofs Go.ChangeShapes Go.WideShapes Go.RowKit Go.Proofs.YthncbanajpiadaaGreat Go.Deep
set_option linter.unusedVariables false
set_option linter.unusedSimpArgs false

/-- Fields, one behind the other. -/
def tilesB (P : Program) : List Field → Nat → Nat → Bool
  | [], k, m => k == m
  | f :: fs, k, m => f.offset == k && tilesB P fs (k + P.cellsOf f.type) m
/-- Types of plain data. -/
def plainTy (P : Program) : Nat → TypeId → Bool
  | 0, _ => false
  | n + 1, t => match P.underlying t with
    | some .bool => P.cellsOf t == 1
    | some (.int _) => P.cellsOf t == 1
    | some .string => P.cellsOf t == 1
    | some (.slice e) => P.cellsOf t == 1 && decide (0 < P.cellsOf e) && plainTy P n e
    | some (.struct fs) => tilesB P fs.toList 0 (P.cellsOf t) && fs.toList.all fun f => plainTy P n f.type
    | _ => false
/-- What clean cells of plain data look like. -/
def Sh (P : Program) (B : Nat) : Nat → TypeId → List DV → Prop
  | 0, _, _ => False
  | n + 1, t, ds => match P.underlying t with
    | some .bool => ∃ b, ds = [.sc (.bool b)]
    | some (.int k) => ∃ m, ds = [.sc (.int k m)] ∧ k.min ≤ m ∧ m ≤ k.max
    | some .string => ∃ s, ds = [.sc (.string (mkB s))] ∧ s.length ≤ B
    | some (.slice e) => ∃ l, ds = [.list false (P.cellsOf e) l] ∧ l.length ≤ B ∧ ∀ r ∈ l, Sh P B n e r
    | some (.struct fs) => ds.length = P.cellsOf t ∧ ∀ (i : Nat) (f : Field), fs[i]? = some f → Sh P B n f.type ((ds.drop f.offset).take (P.cellsOf f.type))
    | _ => False
theorem sh_int {P : Program} {B n : Nat} {t : TypeId} {k : IntKind} {ds : List DV} (ht : P.underlying t = some (.int k)) (h : Sh P B (n + 1) t ds) : ∃ m, ds = [.sc (.int k m)] ∧ k.min ≤ m ∧ m ≤ k.max := by
  unfold Sh at h; rw [ht] at h; exact h
theorem sh_bool {P : Program} {B n : Nat} {t : TypeId} {ds : List DV} (ht : P.underlying t = some .bool) (h : Sh P B (n + 1) t ds) : ∃ b, ds = [.sc (.bool b)] := by
  unfold Sh at h; rw [ht] at h; exact h
theorem sh_str {P : Program} {B n : Nat} {t : TypeId} {ds : List DV} (ht : P.underlying t = some .string) (h : Sh P B (n + 1) t ds) : ∃ s, ds = [.sc (.string (mkB s))] ∧ s.length ≤ B := by
  unfold Sh at h; rw [ht] at h; exact h
theorem sh_slice {P : Program} {B n : Nat} {t e : TypeId} {ds : List DV} (ht : P.underlying t = some (.slice e)) (h : Sh P B (n + 1) t ds) : ∃ l, ds = [.list false (P.cellsOf e) l] ∧ l.length ≤ B ∧ ∀ r ∈ l, Sh P B n e r := by
  unfold Sh at h; rw [ht] at h; exact h
theorem sh_struct {P : Program} {B n : Nat} {t : TypeId} {fs : Array Field} {ds : List DV} (ht : P.underlying t = some (.struct fs)) (h : Sh P B (n + 1) t ds) :
    ds.length = P.cellsOf t ∧ ∀ (i : Nat) (f : Field), fs[i]? = some f → Sh P B n f.type ((ds.drop f.offset).take (P.cellsOf f.type)) := by
  unfold Sh at h; rw [ht] at h; exact h

theorem RelL.cells_one {g : Gh} {ds : List DV} {vs : List Value} (hr : RelL g ds vs) (hc : ds.all DV.cell = true) : ∀ u ∈ vs, u.oneCell' = true := relL_one hr hc

/-- Rows, one behind the other in memory. -/
theorem rows_list {g : Gh} {b off es : Nat} {Q : List DV → Prop} : ∀ (len : Nat), (∀ i, i < len → ∃ ds cs, RelL g ds cs ∧ ds.length = es ∧ (∀ k v, cs[k]? = some v → g.pc b (off + i * es + k) = some v) ∧ Q ds) →
    ∃ (l : List (List DV)) (vs : List Value), l.length = len ∧ (∀ r ∈ l, r.length = es ∧ Q r) ∧ RelL g l.flatten vs ∧ (∀ k v, vs[k]? = some v → g.pc b (off + k) = some v)
  | 0, _ => ⟨[], [], rfl, by simp, RelL.nil g, by simp⟩
  | len + 1, H => by
    obtain ⟨l, vs, h1, h2, h3, h4⟩ := rows_list len fun i hi => H i (by omega)
    obtain ⟨ds, cs, k1, k2, k3, k4⟩ := H len (by omega)
    have hfl : ∀ (l : List (List DV)), (∀ r ∈ l, r.length = es ∧ Q r) → l.flatten.length = l.length * es := by
      intro l
      induction l with
      | nil => intro _; simp
      | cons r l ih =>
        intro h
        rw [List.flatten_cons, List.length_append, (h r List.mem_cons_self).1, ih fun x hx => h x (List.mem_cons_of_mem _ hx), List.length_cons, Nat.add_mul]
        omega
    have hlen : vs.length = len * es := by rw [← h3.len, hfl l h2, h1]
    refine ⟨l ++ [ds], vs ++ cs, by simp [h1], ?_, ?_, ?_⟩
    · intro r hr
      rcases List.mem_append.1 hr with hr | hr
      · exact h2 r hr
      · rw [List.mem_singleton.1 hr]; exact ⟨k2, k4⟩
    · rw [List.flatten_append, List.flatten_cons, List.flatten_nil, List.append_nil]
      exact h3.append k1
    · intro k v hv
      by_cases hk : k < vs.length
      · rw [List.getElem?_append_left hk] at hv; exact h4 k v hv
      · rw [List.getElem?_append_right (by omega)] at hv
        have := k3 _ v hv
        rw [← this]
        congr 1
        omega

theorem tiles_rel {H : Type} {enc : TypeId × Value → H} {P : Program} {W : World} {held : Bool} {g : Gh} {B n m : Nat} {cs : List Value} {xs : List (DataW H × List MemPlace)}
    (ih : ∀ t cs d ps, plainTy P n t = true → DataW.trod enc P W 0 (fun _ => true) held m t cs = some (d, ps) → Rows.uptoBulk d ≤ B + 1 → ∃ ds, RelL g ds cs ∧ ds.all DV.cell = true ∧ Sh P B n t ds ∧ cs.length = P.cellsOf t)
    (hB : ∀ x ∈ xs, Rows.uptoBulk x.1 ≤ B + 1) :
    ∀ (fs : List Field) (i0 k tot : Nat), tilesB P fs k tot = true → (fs.all fun f => plainTy P n f.type) = true → cs.length = tot →
      (∀ (i : Nat) (f : Field), fs[i]? = some f → ∃ x, xs[i0 + i]? = some x ∧ DataW.trod enc P W 0 (fun _ => true) held m f.type ((cs.drop f.offset).take (P.cellsOf f.type)) = some x) →
      k ≤ tot ∧ ∃ ds, RelL g ds (cs.drop k) ∧ ds.all DV.cell = true ∧ (∀ (i : Nat) (f : Field), fs[i]? = some f → k ≤ f.offset ∧ Sh P B n f.type ((ds.drop (f.offset - k)).take (P.cellsOf f.type)))
  | [], i0, k, tot, ht, _, hl, _ => by
    simp only [tilesB, beq_iff_eq] at ht
    subst ht
    refine ⟨Nat.le_refl _, [], ?_, rfl, by simp⟩
    rw [List.drop_eq_nil_of_le (by omega)]
    exact RelL.nil g
  | f :: fs, i0, k, tot, ht, hp, hl, hx => by
    simp only [tilesB, Bool.and_eq_true, beq_iff_eq] at ht
    simp only [List.all_cons, Bool.and_eq_true] at hp
    obtain ⟨hk, ds2, r2, c2, s2⟩ := tiles_rel ih hB fs (i0 + 1) (k + P.cellsOf f.type) tot ht.2 hp.2 hl (fun i f' hf => by
      have := hx (i + 1) f' (by simpa using hf)
      rwa [show i0 + (i + 1) = i0 + 1 + i by omega] at this)
    obtain ⟨x, hx1, hx2⟩ := hx 0 f rfl
    obtain ⟨ds1, r1, c1, s1, l1⟩ := ih f.type _ x.1 x.2 hp.1 hx2 (hB x (List.mem_of_getElem? hx1))
    rw [ht.1] at r1 l1
    have hsp : cs.drop k = (cs.drop k).take (P.cellsOf f.type) ++ cs.drop (k + P.cellsOf f.type) := by
      have e := (List.take_append_drop (P.cellsOf f.type) (cs.drop k)).symm
      rw [List.drop_drop] at e
      exact e
    have hl1 : ds1.length = P.cellsOf f.type := by rw [r1.len, l1]
    refine ⟨by omega, ds1 ++ ds2, ?_, by rw [List.all_append, c1, c2]; rfl, ?_⟩
    · rw [hsp]; exact r1.append r2
    · intro i f' hf
      cases i with
      | zero =>
        cases hf
        refine ⟨by omega, ?_⟩
        rw [ht.1, Nat.sub_self, List.drop_zero, List.take_append_of_le_length (by omega), List.take_of_length_le (by omega)]
        exact s1
      | succ i =>
        obtain ⟨q1, q2⟩ := s2 i f' (by simpa using hf)
        refine ⟨by omega, ?_⟩
        rw [List.drop_append, List.drop_eq_nil_of_le (by omega), List.nil_append, hl1, show f'.offset - k - P.cellsOf f.type = f'.offset - (k + P.cellsOf f.type) by omega]
        exact q2

/-- Whatever plain data is read in memory has a clean form. -/
theorem any_rel {H : Type} {enc : TypeId × Value → H} {P : Program} {W : World} {held : Bool} {B : Nat} : ∀ (n m : Nat) (t : TypeId) (cs : List Value) (d : DataW H) (ps : List MemPlace), plainTy P n t = true →
    DataW.trod enc P W 0 (fun _ => true) held m t cs = some (d, ps) → Rows.uptoBulk d ≤ B + 1 → ∃ ds, RelL (gh0 W) ds cs ∧ ds.all DV.cell = true ∧ Sh P B n t ds ∧ cs.length = P.cellsOf t
  | 0, m, t, cs, d, ps, hp, _, _ => by simp [plainTy] at hp
  | n + 1, m, t, cs, d, ps, hp, h, hb => by
    unfold plainTy at hp
    unfold Sh
    split at hp
    · rename_i ht
      obtain ⟨b, rfl, _⟩ := DataW.trod_bool ht h
      exact ⟨_, .cons (.sc _) (.nil _), rfl, ⟨b, rfl⟩, by simpa using (beq_iff_eq.1 hp).symm⟩
    · rename_i k ht
      obtain ⟨x, rfl, _, hw⟩ := DataW.trod_int ht h
      simp only [Lit.wf, Bool.and_eq_true, decide_eq_true_eq] at hw
      exact ⟨_, .cons (.sc _) (.nil _), rfl, ⟨x, rfl, hw.1, hw.2⟩, by simpa using (beq_iff_eq.1 hp).symm⟩
    · rename_i ht
      obtain ⟨s, rfl, hx, _⟩ := DataW.trod_string ht h
      cases hx
      refine ⟨_, .cons (.sc _) (.nil _), rfl, ⟨bs s, rfl, ?_⟩, by simpa using (beq_iff_eq.1 hp).symm⟩
      simp only [Rows.uptoBulk] at hb
      show s.data.toList.length ≤ B
      omega
    · rename_i e ht
      simp only [Bool.and_eq_true, beq_iff_eq, decide_eq_true_eq] at hp
      obtain ⟨⟨hp1, hp2⟩, hp3⟩ := hp
      rcases DataW.trod_slice ht h with ⟨rfl, hx⟩ | ⟨a, len, cap, elems, rest, q, rfl, rfl, hx, _, hlc, _, hel, hat, _, _⟩
      · exact ⟨_, .cons .empty (.nil _), rfl, ⟨[], rfl, by simp, by simp⟩, by simpa using hp1.symm⟩
      · have hd : d = .slice (elems.map (·.1)) (rest.map (·.1)) := congrArg Prod.fst hx
        subst hd
        simp only [Rows.uptoBulk] at hb
        have hlB : len ≤ B := by
          have := bulk_len (elems.map (·.1))
          rw [List.length_map] at this
          omega
        by_cases hz : len = 0
        · subst hz
          exact ⟨_, .cons .empty (.nil _), rfl, ⟨[], rfl, by simp, by simp⟩, by simpa using hp1.symm⟩
        obtain ⟨b, off, sp⟩ := a
        have hcell : ∀ i, i < len → ∃ ds cs, RelL (gh0 W) ds cs ∧ ds.length = P.cellsOf e ∧ ds.all DV.cell = true ∧ Sh P B n e ds ∧ ∀ k v, cs[k]? = some v → W.cell? ((Addr.mk b off sp).add (i * P.cellsOf e) |>.add k) = some v ∧ v.oneCell' = true := by
          intro i hi
          have h1 := hat i hi
          have h2 : elems[i]? = some (elems[i]'(by omega)) := List.getElem?_eq_getElem (by omega)
          rw [h2, Option.bind_eq_some_iff] at h1
          obtain ⟨cs, c1, c2⟩ := h1
          obtain ⟨_, c3, c4⟩ := World.cells?_some c1
          have hbi : Rows.uptoBulk (elems[i]'(by omega)).1 ≤ B + 1 := by
            have := bulk_get (l := elems.map (·.1)) (d := (elems[i]'(by omega)).1) (List.mem_map_of_mem (List.getElem_mem _))
            omega
          obtain ⟨ds, r1, r2, r3, r4⟩ := any_rel n q e cs _ _ hp3 c2 hbi
          refine ⟨ds, cs, r1, by rw [r1.len, r4], r2, r3, fun k v hv => ?_⟩
          have hk : k < P.cellsOf e := by rw [← c3]; exact (List.getElem?_eq_some_iff.1 hv).1
          exact ⟨(c4 k hk).trans hv, relL_one r1 r2 v (List.mem_of_getElem? hv)⟩
        have hsp : sp = none := by
          obtain ⟨ds, cs, r1, r2, _, _, r5⟩ := hcell 0 (by omega)
          have : cs ≠ [] := fun e0 => by
            have h0 := r1.len
            rw [e0, r2, List.length_nil] at h0
            omega
          obtain ⟨v, hv⟩ : ∃ v, cs[0]? = some v := ⟨cs[0]'(List.length_pos_iff.2 this), List.getElem?_eq_getElem _⟩
          have := (r5 0 v hv).1
          cases sp with
          | none => rfl
          | some _ =>
            simp [World.cell?, Addr.add] at this
            split at this <;> simp at this
        subst hsp
        have hadd : ∀ i k : Nat, ((Addr.mk b off none).add i).add k = ⟨b, off + i + k, none⟩ := fun i k => by
          by_cases hi : i = 0 <;> by_cases hk : k = 0 <;> simp [Addr.add, hi, hk]
        obtain ⟨l, vs, l1, l2, l3, l4⟩ := rows_list (g := gh0 W) (b := b) (off := off) (es := P.cellsOf e) (Q := fun ds => ds.all DV.cell = true ∧ Sh P B n e ds) len fun i hi => by
          obtain ⟨ds, cs, r1, r2, r3, r4, r5⟩ := hcell i hi
          refine ⟨ds, cs, r1, r2, fun k v hv => ?_, r3, r4⟩
          obtain ⟨q1, q2⟩ := r5 k v hv
          rw [hadd] at q1
          exact gh0_pc q1 q2
        refine ⟨[.list false (P.cellsOf e) l], .cons ?_ (.nil _), rfl, ⟨l, rfl, by omega, fun r hr => (l2 r hr).2.2⟩, by simpa using hp1.symm⟩
        rw [← l1]
        exact .list (by omega) (fun r hr => (l2 r hr).1) l3.len l3.at_ l4
    · rename_i fs ht
      simp only [Bool.and_eq_true] at hp
      obtain ⟨xs, q, rfl, hx, hcl, hxl, hf⟩ := DataW.trod_struct ht h
      have hd : d = .agg (xs.map (·.1)) := congrArg Prod.fst hx
      subst hd
      simp only [Rows.uptoBulk] at hb
      obtain ⟨_, ds, r1, r2, r3⟩ := tiles_rel (g := gh0 W) (B := B) (n := n) (m := q) (cs := cs) (xs := xs) (fun t cs d ps => any_rel n q t cs d ps) (fun x hx => by
        have := bulk_get (l := xs.map (·.1)) (d := x.1) (List.mem_map_of_mem hx)
        omega) fs.toList 0 0 (P.cellsOf t) hp.1 hp.2 hcl (fun i f hi => by
          have hi' : fs[i]? = some f := by simpa using hi
          have := hf i f hi'
          have hlt : i < xs.length := by rw [hxl]; exact (Array.getElem?_eq_some_iff.1 hi').1
          rw [Nat.zero_add]
          exact ⟨xs[i], List.getElem?_eq_getElem hlt, this.trans (List.getElem?_eq_getElem hlt)⟩)
      rw [List.drop_zero] at r1
      refine ⟨ds, r1, r2, ⟨by rw [r1.len, hcl], fun i f hi => ?_⟩, hcl⟩
      have := (r3 i f (by simpa using hi)).2
      simpa using this
    · cases hp
end Go.DS

/-
  Arguments of this program's types, opened.
-/
namespace Go.DS
open Go Go.Proofs Go.ChangeShapes Go.WideShapes Go.RowKit Go.Proofs.YthncbanajpiadaaGreat Go.Deep
set_option linter.unusedVariables false
set_option maxRecDepth 100000
set_option linter.unusedSimpArgs false
theorem sh_at {P : Program} {B n : Nat} {fs : Array Field} {ds : List DV} (hf : ∀ (i : Nat) (f : Field), fs[i]? = some f → Sh P B n f.type ((ds.drop f.offset).take (P.cellsOf f.type))) (i : Nat) (f : Field) (hi : fs[i]? = some f) (hc : P.cellsOf f.type = 1) (d : DV) (hd : ds[f.offset]? = some d) : Sh P B n f.type [d] := by
  have := hf i f hi
  obtain ⟨hl, rfl⟩ := List.getElem?_eq_some_iff.1 hd
  rw [hc, List.drop_eq_getElem_cons hl] at this
  exact this
def In64 (m : Int) : Prop := -9223372036854775808 ≤ m ∧ m ≤ 9223372036854775807
theorem in64 {m : Int} (h : IntKind.min .i64 ≤ m ∧ m ≤ IntKind.max .i64) : In64 m := by
  have e1 : IntKind.min .i64 = -9223372036854775808 := by decide
  have e2 : IntKind.max .i64 = 9223372036854775807 := by decide
  rw [e1, e2] at h
  exact h
/-- An argument of a struct. -/
theorem arg_struct {H : Type} {enc : TypeId × Value → H} {P : Program} {W : World} {held : Bool} {B base n : Nat} {t : TypeId} {fs : Array Field} {v : Value} {d : DataW H} {ps : List MemPlace} (ht : P.underlying t = some (.struct fs)) (hp : plainTy P n t = true)
    (hv : Value.okWide P W .any base t v) (h : DataW.Trod enc P W 0 (fun _ => true) held t v d ps) (hb : Rows.uptoBulk d ≤ B + 1) : ∃ ds, RelV (gh0 W) (.agg ds) v ∧ Sh P B n t ds := by
  obtain ⟨cs, rfl, _⟩ := okWide_struct ht hv
  obtain ⟨m, hm⟩ := h
  obtain ⟨ds, r1, _, r3, _⟩ := any_rel n m t _ d ps hp hm hb
  refine ⟨ds, ?_, r3⟩
  have := RelV.agg r1.len r1.at_
  simpa [Value.cells] using this
/-- An argument of a slice. -/
theorem arg_slice {H : Type} {enc : TypeId × Value → H} {P : Program} {W : World} {held : Bool} {B base n : Nat} {t e : TypeId} {v : Value} {d : DataW H} {ps : List MemPlace} (ht : P.underlying t = some (.slice e)) (hp : plainTy P (n + 1) t = true)
    (hv : Value.okWide P W .any base t v) (h : DataW.Trod enc P W 0 (fun _ => true) held t v d ps) (hb : Rows.uptoBulk d ≤ B + 1) : ∃ l, RelV (gh0 W) (.list false (P.cellsOf e) l) v ∧ l.length ≤ B ∧ ∀ r ∈ l, Sh P B n e r := by
  obtain ⟨a, len, cap, rfl⟩ := okWide_slice ht hv
  obtain ⟨m, hm⟩ := h
  obtain ⟨ds, r1, _, r3, _⟩ := any_rel (n + 1) m t _ d ps hp hm hb
  obtain ⟨l, rfl, h1, h2⟩ := sh_slice ht r3
  refine ⟨l, ?_, h1, h2⟩
  have r1' : RelL (gh0 W) [.list false (P.cellsOf e) l] [.slice a len cap] := by simpa [Value.cells] using r1
  exact r1'.at_ 0 _ _ rfl rfl
theorem rows_map {α : Type} {Q : List DV → Prop} {F : α → List DV} {R : α → Prop} (h : ∀ r, Q r → ∃ x, r = F x ∧ R x) : ∀ l : List (List DV), (∀ r ∈ l, Q r) → ∃ m : List α, l = m.map F ∧ (∀ x ∈ m, R x) ∧ m.length = l.length
  | [], _ => ⟨[], rfl, by simp, rfl⟩
  | r :: l, hl => by
    obtain ⟨m, rfl, h2, h3⟩ := rows_map h l fun x hx => hl x (List.mem_cons_of_mem _ hx)
    obtain ⟨x, rfl, h4⟩ := h r (hl r List.mem_cons_self)
    exact ⟨x :: m, rfl, fun y hy => by rcases List.mem_cons.1 hy with rfl | hy; exact h4; exact h2 y hy, by simp⟩
structure CmdOK (B : Nat) (c : Cmd) : Prop where
  path : c.path.length ≤ B
  value : c.value.length ≤ B
  client : In64 c.client
  seq : In64 c.seq
  op : In64 c.op
  version : In64 c.version
  a : In64 c.a
  b : In64 c.b
theorem cmd_of {B n : Nat} {ds : List DV} (h : Sh Tryz.prog B (n + 2) 25 ds) : ∃ c : Cmd, ds = cmdL c ∧ CmdOK B c := by
  obtain ⟨hl, hf⟩ := sh_struct Tryz.underlying25 h
  have hl' : ds.length = 8 := hl.trans (by kernel_rfl)
  match ds, hl' with
  | [d0, d1, d2, d3, d4, d5, d6, d7], _ =>
    obtain ⟨x0, e0, r0⟩ := sh_int Tryz.underlying3 (sh_at hf 0 _ rfl (by kernel_rfl) d0 rfl)
    obtain ⟨x1, e1, r1⟩ := sh_int Tryz.underlying3 (sh_at hf 1 _ rfl (by kernel_rfl) d1 rfl)
    obtain ⟨x2, e2, r2⟩ := sh_int Tryz.underlying23 (sh_at hf 2 _ rfl (by kernel_rfl) d2 rfl)
    obtain ⟨x3, e3, r3⟩ := sh_str Tryz.underlying9 (sh_at hf 3 _ rfl (by kernel_rfl) d3 rfl)
    obtain ⟨x4, e4, r4⟩ := sh_str Tryz.underlying9 (sh_at hf 4 _ rfl (by kernel_rfl) d4 rfl)
    obtain ⟨x5, e5, r5⟩ := sh_int Tryz.underlying3 (sh_at hf 5 _ rfl (by kernel_rfl) d5 rfl)
    obtain ⟨x6, e6, r6⟩ := sh_int Tryz.underlying3 (sh_at hf 6 _ rfl (by kernel_rfl) d6 rfl)
    obtain ⟨x7, e7, r7⟩ := sh_int Tryz.underlying3 (sh_at hf 7 _ rfl (by kernel_rfl) d7 rfl)
    cases e0; cases e1; cases e2; cases e3; cases e4; cases e5; cases e6; cases e7
    exact ⟨⟨x0, x1, x2, x3, x4, x5, x6, x7⟩, rfl, r3, r4, in64 r0, in64 r1, in64 r2, in64 r5, in64 r6, in64 r7⟩
theorem arg_cmd {H : Type} {enc : TypeId × Value → H} {W : World} {held : Bool} {B base : Nat} {v : Value} {d : DataW H} {ps : List MemPlace} (hv : Value.okWide Tryz.prog W .any base 25 v)
    (h : DataW.Trod enc Tryz.prog W 0 (fun _ => true) held 25 v d ps) (hb : Rows.uptoBulk d ≤ B + 1) : ∃ c : Cmd, RelV (gh0 W) (cmdD c) v ∧ CmdOK B c := by
  obtain ⟨ds, r1, r2⟩ := arg_struct (n := 2) Tryz.underlying25 (by kernel_rfl) hv h hb
  obtain ⟨c, rfl, hc⟩ := cmd_of r2
  exact ⟨c, r1, hc⟩
theorem arg_cmds {H : Type} {enc : TypeId × Value → H} {W : World} {held : Bool} {B base : Nat} {v : Value} {d : DataW H} {ps : List MemPlace} (hv : Value.okWide Tryz.prog W .any base 22 v)
    (h : DataW.Trod enc Tryz.prog W 0 (fun _ => true) held 22 v d ps) (hb : Rows.uptoBulk d ≤ B + 1) : ∃ l : List Cmd, RelV (gh0 W) (.list false 8 (cms l)) v ∧ l.length ≤ B ∧ ∀ c ∈ l, CmdOK B c := by
  obtain ⟨l, r1, r2, r3⟩ := arg_slice (n := 2) Tryz.underlying22 (by kernel_rfl) hv h hb
  obtain ⟨m, rfl, h1, h2⟩ := rows_map (fun r hr => cmd_of (n := 0) hr) l r3
  refine ⟨m, ?_, by omega, h1⟩
  have e : Tryz.prog.cellsOf 25 = 8 := by kernel_rfl
  rwa [e] at r1
end Go.DS
