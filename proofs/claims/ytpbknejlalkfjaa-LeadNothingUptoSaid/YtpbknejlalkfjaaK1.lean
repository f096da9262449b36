/-
  The values and the ghost state of the clean semantics ("DS"): what a clean value is, and how it stands to a value of the model in a world.
-/
import Derived.WalkKit
import Derived.KernelRfl
import Derived.Laws.BytesArg
set_option linter.unusedSimpArgs false
set_option linter.unusedVariables false
namespace Go.DS
open Go
set_option linter.unusedVariables false

/-- Clean values. sc: a value of the model that names no memory. list: a slice, by its elements, each a row of cells; own: the one holder that may append to it in place. ptr, mp: an object of the clean heap (cells, a map). box, path: a variable of the frame in memory (by its slot), a place in it. eptr: a place in memory that is never written again. -/
inductive DV where
  | sc (v : Value)
  | list (own : Bool) (es : Nat) (l : List (List DV))
  | ptr (i off : Nat)
  | box (cs : List DV)
  | path (s off : Nat)
  | eptr (cs : List DV)
  | mp (i : Nat)
  | fn (f : Fn) (first cap : List DV)
  | iface (t : TypeId) (v : DV)
  | agg (cs : List DV)
  | tup (cs : List DV)
  | junk
  | vec (i es off n : Nat)
  | rptr (i off : Nat)
  deriving Inhabited

/-- Objects of the clean heap. row: the first cells of a block that is a slice's, to be written in place; dead: what was a row. -/
inductive DObj where
  | cells (cs : List DV)
  | map (es : List (DV × DV))
  | row (cs : List DV)
  | dead
  deriving Inhabited

abbrev DHeap := List DObj

/-- What a block of memory is to the clean state. -/
inductive Kind where
  | foreign
  | data
  | obj (i : Nat)
  | box (d s : Nat)
  | ownSlot (d s : Nat)
  | ownCell (d s k : Nat)
  | ownObj (i k : Nat)
  deriving DecidableEq

/-- The ghost state: which block is object i; which cells are never written again, and what they hold; what each block is. -/
structure Gh where
  n : Nat
  η : Nat → Nat
  pc : Nat → Nat → Option Value
  kind : Nat → Kind
  sz : Nat → Nat
  one : ∀ b o v, pc b o = some v → v.oneCell' = true

structure Gh.Le (g g' : Gh) : Prop where
  n : g.n ≤ g'.n
  η : ∀ i, i < g.n → g'.η i = g.η i
  pc : ∀ b o v, g.pc b o = some v → g'.pc b o = some v
  sz : ∀ i, i < g.n → g'.sz i = g.sz i

theorem Gh.Le.refl (g : Gh) : Gh.Le g g := ⟨Nat.le_refl _, fun _ _ => rfl, fun _ _ _ h => h, fun _ _ => rfl⟩
theorem Gh.Le.trans {a b c : Gh} (h : Gh.Le a b) (k : Gh.Le b c) : Gh.Le a c :=
  ⟨Nat.le_trans h.n k.n, fun i hi => (k.η i (Nat.lt_of_lt_of_le hi h.n)).trans (h.η i hi), fun b o v hv => k.pc _ _ _ (h.pc _ _ _ hv), fun i hi => (k.sz i (Nat.lt_of_lt_of_le hi h.n)).trans (h.sz i hi)⟩

/-- How a clean value stands to a value of the model: a relation that lasts while the ghost state grows. -/
inductive RelV (g : Gh) : DV → Value → Prop
  | sc (v : Value) : RelV g (.sc v) v
  | junk (v : Value) : RelV g .junk v
  | ptr {i off : Nat} : i < g.n → RelV g (.ptr i off) (.pointer (some ⟨g.η i, off, none⟩))
  | mp {i : Nat} : i < g.n → RelV g (.mp i) (.map (some (g.η i)))
  | eptr {cs : List DV} {vs : List Value} {b off : Nat} : cs.length = vs.length → (∀ (k : Nat) (d : DV) (v : Value), cs[k]? = some d → vs[k]? = some v → RelV g d v) →
      (∀ (k : Nat) (v : Value), vs[k]? = some v → g.pc b (off + k) = some v) → RelV g (.eptr cs) (.pointer (some ⟨b, off, none⟩))
  | list {own : Bool} {es : Nat} {l : List (List DV)} {cap b off : Nat} {vs : List Value} : l.length ≤ cap → (∀ x ∈ l, x.length = es) → l.flatten.length = vs.length →
      (∀ (k : Nat) (d : DV) (v : Value), l.flatten[k]? = some d → vs[k]? = some v → RelV g d v) →
      (∀ (k : Nat) (v : Value), vs[k]? = some v → g.pc b (off + k) = some v) → RelV g (.list own es l) (.slice (some ⟨b, off, none⟩) l.length cap)
  | empty {own : Bool} {es : Nat} {a : Option Addr} {cap : Nat} : RelV g (.list own es []) (.slice a 0 cap)
  | vec {i es off n cap : Nat} : i < g.n → n ≤ cap → (off + cap) * es ≤ g.sz i → RelV g (.vec i es off n) (.slice (some ⟨g.η i, off * es, none⟩) n cap)
  | rptr {i off : Nat} : i < g.n → RelV g (.rptr i off) (.pointer (some ⟨g.η i, off, none⟩))
  | vec0 {i es off : Nat} {a : Option Addr} : RelV g (.vec i es off 0) (.slice a 0 0)
  | fn {f : Fn} {fs cs : List DV} {gs ds : List Value} : fs.length = gs.length → (∀ (k : Nat) (d : DV) (v : Value), fs[k]? = some d → gs[k]? = some v → RelV g d v) →
      cs.length = ds.length → (∀ (k : Nat) (d : DV) (v : Value), cs[k]? = some d → ds[k]? = some v → RelV g d v) → RelV g (.fn f fs cs) (.func f gs.toArray ds.toArray)
  | iface {t : TypeId} {d : DV} {v : Value} : RelV g d v → RelV g (.iface t d) (.iface t v)
  | agg {cs : List DV} {vs : List Value} : cs.length = vs.length → (∀ (k : Nat) (d : DV) (v : Value), cs[k]? = some d → vs[k]? = some v → RelV g d v) → RelV g (.agg cs) (.agg vs.toArray)
  | tup {cs : List DV} {vs : List Value} : cs.length = vs.length → (∀ (k : Nat) (d : DV) (v : Value), cs[k]? = some d → vs[k]? = some v → RelV g d v) → RelV g (.tup cs) (.tuple vs.toArray)

/-- Rows of them. -/
structure RelL (g : Gh) (ds : List DV) (vs : List Value) : Prop where
  len : ds.length = vs.length
  at_ : ∀ (k : Nat) (d : DV) (v : Value), ds[k]? = some d → vs[k]? = some v → RelV g d v

theorem RelV.mono {g g' : Gh} (hg : Gh.Le g g') {d : DV} {v : Value} (h : RelV g d v) : RelV g' d v := by
  induction h with
  | sc v => exact .sc v
  | junk v => exact .junk v
  | ptr hi => rw [← hg.η _ hi]; exact .ptr (Nat.lt_of_lt_of_le hi hg.n)
  | mp hi => rw [← hg.η _ hi]; exact .mp (Nat.lt_of_lt_of_le hi hg.n)
  | eptr h1 h2 h3 ih => exact .eptr h1 ih (fun k v hv => hg.pc _ _ _ (h3 k v hv))
  | list h1 h2 h3 h4 h5 ih => exact .list h1 h2 h3 ih (fun k v hv => hg.pc _ _ _ (h5 k v hv))
  | empty => exact .empty
  | vec0 => exact .vec0
  | rptr hi => rw [← hg.η _ hi]; exact .rptr (Nat.lt_of_lt_of_le hi hg.n)
  | vec hi hn hc => rw [← hg.η _ hi]; exact .vec (Nat.lt_of_lt_of_le hi hg.n) hn (by rw [hg.sz _ hi]; exact hc)
  | fn h1 h2 h3 h4 ih1 ih2 => exact .fn h1 ih1 h3 ih2
  | iface h ih => exact .iface ih
  | agg h1 h2 ih => exact .agg h1 ih
  | tup h1 h2 ih => exact .tup h1 ih

theorem RelL.mono {g g' : Gh} (hg : Gh.Le g g') {ds : List DV} {vs : List Value} (h : RelL g ds vs) : RelL g' ds vs :=
  ⟨h.len, fun k d v hd hv => (h.at_ k d v hd hv).mono hg⟩

theorem RelL.nil (g : Gh) : RelL g [] [] := ⟨rfl, fun k d v hd _ => by simp at hd⟩

theorem RelL.cons {g : Gh} {d : DV} {v : Value} {ds : List DV} {vs : List Value} (h : RelV g d v) (hs : RelL g ds vs) : RelL g (d :: ds) (v :: vs) :=
  ⟨by simp [hs.len], fun k e u he hu => by
    cases k with
    | zero => simp at he hu; subst he; subst hu; exact h
    | succ k => simp at he hu; exact hs.at_ k e u he hu⟩

theorem RelL.cons_inv {g : Gh} {d : DV} {ds : List DV} {vs : List Value} (h : RelL g (d :: ds) vs) : ∃ v us, vs = v :: us ∧ RelV g d v ∧ RelL g ds us := by
  cases vs with
  | nil => have := h.len; simp at this
  | cons v us =>
    exact ⟨v, us, rfl, h.at_ 0 d v rfl rfl, ⟨by have := h.len; simpa using this, fun k e u he hu => h.at_ (k + 1) e u (by simpa using he) (by simpa using hu)⟩⟩

theorem RelL.nil_inv {g : Gh} {vs : List Value} (h : RelL g [] vs) : vs = [] := by
  cases vs with
  | nil => rfl
  | cons v us => have := h.len; simp at this

theorem RelL.append {g : Gh} {ds es : List DV} {vs us : List Value} (h : RelL g ds vs) (k : RelL g es us) : RelL g (ds ++ es) (vs ++ us) := by
  induction ds generalizing vs with
  | nil => have := h.nil_inv; subst this; simpa using k
  | cons d ds ih => obtain ⟨v, ws, rfl, hv, hr⟩ := h.cons_inv; exact .cons hv (ih hr)

theorem RelL.get {g : Gh} {ds : List DV} {vs : List Value} (h : RelL g ds vs) {k : Nat} {d : DV} (hd : ds[k]? = some d) : ∃ v, vs[k]? = some v ∧ RelV g d v := by
  have hk : k < ds.length := (List.getElem?_eq_some_iff.1 hd).1
  have hk' : k < vs.length := h.len ▸ hk
  exact ⟨vs[k], List.getElem?_eq_getElem hk', h.at_ k d _ hd (List.getElem?_eq_getElem hk')⟩

theorem RelL.take {g : Gh} {ds : List DV} {vs : List Value} (h : RelL g ds vs) (n : Nat) : RelL g (ds.take n) (vs.take n) :=
  ⟨by simp [h.len], fun k d v hd hv => by
    rw [List.getElem?_take] at hd hv
    split at hd
    · rename_i hk; rw [if_pos hk] at hv; exact h.at_ k d v hd hv
    · cases hd⟩

theorem RelL.drop {g : Gh} {ds : List DV} {vs : List Value} (h : RelL g ds vs) (n : Nat) : RelL g (ds.drop n) (vs.drop n) :=
  ⟨by simp [h.len], fun k d v hd hv => by
    rw [List.getElem?_drop] at hd hv
    exact h.at_ _ d v hd hv⟩

theorem RelL.set {g : Gh} {ds : List DV} {vs : List Value} (h : RelL g ds vs) (k : Nat) {d : DV} {v : Value} (hv : RelV g d v) : RelL g (ds.set k d) (vs.set k v) :=
  ⟨by simp [h.len], fun j e u he hu => by
    rw [List.getElem?_set] at he hu
    split at he
    · rename_i hj; rw [if_pos hj] at hu
      split at he
      · rename_i hl; rw [if_pos (h.len ▸ hl)] at hu
        cases he; cases hu; exact hv
      · cases he
    · rename_i hj; rw [if_neg hj] at hu; exact h.at_ j e u he hu⟩

theorem RelL.map_drop {g : Gh} {ds : List DV} {vs : List Value} (h : RelL g ds vs) (f : DV → DV) (hf : ∀ d v, RelV g d v → RelV g (f d) v) : RelL g (ds.map f) vs :=
  ⟨by simp [h.len], fun k d v hd hv => by
    rw [List.getElem?_map] at hd
    cases hk : ds[k]? with
    | none => rw [hk] at hd; cases hd
    | some e => rw [hk] at hd; cases hd; exact hf e v (h.at_ k e v hk hv)⟩

/-- The same value, which nobody may append to by it. -/
def DV.shed : DV → DV
  | .list _ es l => .list false es l
  | .tup (.list _ es l :: cs) => .tup (.list false es l :: cs)
  | d => d

theorem shed_tup_eq (cs : List DV) : (DV.tup cs).shed = .tup cs ∨ ∃ o es l r, cs = .list o es l :: r ∧ (DV.tup cs).shed = .tup (.list false es l :: r) := by
  unfold DV.shed
  split
  · rename_i h; cases h
  · rename_i o es l r h; cases h; exact .inr ⟨_, _, _, _, rfl, rfl⟩
  · exact .inl rfl
theorem RelV.unown {g : Gh} {o : Bool} {es : Nat} {l : List (List DV)} {v : Value} (h : RelV g (.list o es l) v) : RelV g (.list false es l) v := by
  cases h with
  | list h1 h2 h3 h4 h5 => exact .list h1 h2 h3 h4 h5
  | empty => exact .empty
theorem RelV.shed {g : Gh} {d : DV} {v : Value} (h : RelV g d v) : RelV g d.shed v := by
  cases h with
  | list h1 h2 h3 h4 h5 => exact .list h1 h2 h3 h4 h5
  | empty => exact .empty
  | agg h1 h2 => exact .agg h1 h2
  | sc v => exact .sc v
  | junk v => exact .junk v
  | ptr hi => exact .ptr hi
  | mp hi => exact .mp hi
  | vec hi hn hc => exact .vec hi hn hc
  | rptr hi => exact .rptr hi
  | vec0 => exact .vec0
  | eptr h1 h2 h3 => exact .eptr h1 h2 h3
  | fn h1 h2 h3 h4 => exact .fn h1 h2 h3 h4
  | iface h => exact .iface h
  | tup h1 h2 =>
    rename_i cs vs
    rcases shed_tup_eq cs with e | ⟨o, es, l, r, rfl, e⟩
    · rw [e]; exact .tup h1 h2
    · rw [e]
      refine .tup (by simpa using h1) fun k x u hx hu => ?_
      cases k with
      | zero => simp at hx; subst hx; exact (h2 0 _ u rfl hu).unown
      | succ k => exact h2 (k + 1) x u (by simpa using hx) hu

theorem DV.shed_shed (x : DV) : x.shed.shed = x.shed := by
  cases x <;> try rfl
  rename_i cs
  rcases shed_tup_eq cs with e | ⟨o, es, l, r, rfl, e⟩
  · rw [e, e]
  · rfl
theorem shed_tup_or (cs : List DV) : ∃ ds, (DV.tup cs).shed = .tup ds := by
  rcases shed_tup_eq cs with e | ⟨o, es, l, r, rfl, e⟩
  · exact ⟨_, e⟩
  · exact ⟨_, e⟩

theorem shed_tup_shed (x : DV) (r : List DV) : (DV.tup (x.shed :: r)).shed = .tup (x.shed :: r) := by
  cases x <;> try rfl
  rename_i cs
  obtain ⟨ds, e⟩ := shed_tup_or cs
  rw [e]; rfl

/-- The list that a value owns: itself, or the first of a tuple. -/
def own1 : DV → Option (Nat × List (List DV))
  | .list true es l => some (es, l)
  | .tup (.list true es l :: _) => some (es, l)
  | _ => none
def hdr1 : DV → Value → Option (Option Addr × Nat)
  | .list _ _ _, .slice a _ cap => some (a, cap)
  | .tup _, .tuple vs => match vs[0]? with
    | some (Value.slice a _ cap) => some (a, cap)
    | _ => none
  | _, _ => none

/-- Who owns a list's block, where there is room behind it. -/
def OwnAt (g : Gh) (w : World) (p : Kind) (d : DV) (v : Value) : Prop := ∀ es l a cap, own1 d = some (es, l) → hdr1 d v = some (a, cap) → l.length < cap →
  ∃ b off c et, a = some ⟨b, off, none⟩ ∧ g.kind b = p ∧ w.heap[b]? = some (.cells c et (0, 0)) ∧ off + cap * es ≤ c.size ∧ (∀ o, off + l.length * es ≤ o → g.pc b o = none)

theorem OwnAt.none {g : Gh} {w : World} {p : Kind} {d : DV} {v : Value} (h : own1 d = .none) : OwnAt g w p d v := fun _ _ _ _ e => by rw [h] at e; cases e
theorem own1_shed (d : DV) : own1 d.shed = .none := by
  unfold DV.shed
  split
  · rfl
  · rfl
  · rename_i d h1 h2
    unfold own1
    split
    · exact (h1 _ _ _ rfl).elim
    · exact (h2 _ _ _ _ rfl).elim
    · rfl
theorem OwnAt.shed {g : Gh} {w : World} {p : Kind} {d : DV} {v : Value} : OwnAt g w p d.shed v := .none (own1_shed d)
theorem OwnAt.list {g : Gh} {w : World} {p : Kind} {es : Nat} {l : List (List DV)} {a : Option Addr} {n cap : Nat} (h : OwnAt g w p (.list true es l) (.slice a n cap)) (hlt : l.length < cap) :
    ∃ b off c et, a = some ⟨b, off, .none⟩ ∧ g.kind b = p ∧ w.heap[b]? = some (.cells c et (0, 0)) ∧ off + cap * es ≤ c.size ∧ (∀ o, off + l.length * es ≤ o → g.pc b o = .none) := h es l a cap rfl rfl hlt

theorem OwnAt.mk_list {g : Gh} {w : World} {p : Kind} {es : Nat} {l : List (List DV)} {a : Option Addr} {n cap : Nat} (h : l.length < cap →
    ∃ b off c et, a = some ⟨b, off, .none⟩ ∧ g.kind b = p ∧ w.heap[b]? = some (.cells c et (0, 0)) ∧ off + cap * es ≤ c.size ∧ (∀ o, off + l.length * es ≤ o → g.pc b o = .none)) : OwnAt g w p (.list true es l) (.slice a n cap) :=
  fun es' l' a' cap' o1 o2 hlt => by cases o1; cases o2; exact h hlt

theorem OwnAt.tup {g : Gh} {w : World} {p : Kind} {x : DV} {xs : List DV} {v : Value} {vs : Array Value} (h : OwnAt g w p x v) (hv : vs[0]? = some v) : OwnAt g w p (.tup (x :: xs)) (.tuple vs) := fun es l a cap o1 o2 hlt => by
  unfold own1 at o1
  split at o1
  · rename_i e; cases e
  · rename_i es' l' r e
    cases e
    cases o1
    simp only [hdr1, hv] at o2
    split at o2
    · rename_i e; cases e; cases o2
      exact h es l a cap rfl rfl hlt
    · cases o2
  · cases o1
theorem OwnAt.head {g : Gh} {w : World} {p : Kind} {x : DV} {xs : List DV} {v : Value} {vs : Array Value} (h : OwnAt g w p (.tup (x :: xs)) (.tuple vs)) (hv : vs[0]? = some v) (hx : ∃ o es l, x = .list o es l) : OwnAt g w p x v := by
  obtain ⟨o, es, l, rfl⟩ := hx
  cases o with
  | false => exact .none rfl
  | true =>
    intro es' l' a cap o1 o2 hlt
    cases o1
    refine h es l a cap rfl ?_ hlt
    simp only [hdr1, hv]
    cases v <;> simp only [hdr1] at o2 ⊢ <;> first | (cases o2; done) | (cases o2; rfl)

end Go.DS

/-
  The invariant of the clean semantics, and what a change of one block leaves of it.
-/
namespace Go.DS
open Go
set_option linter.unusedVariables false

/-- A block of cells that the clean state holds by itself. -/
def Held (g : Gh) (w : World) (b : Nat) (kb : Kind) (own : Nat → Kind) (cs : List DV) : Prop :=
  ∃ vs et, w.heap[b]? = some (.cells vs et (0, 0)) ∧ g.kind b = kb ∧ (∀ o, g.pc b o = none) ∧ RelL g cs vs.toList ∧
    ∀ k d v, cs[k]? = some d → vs[k]? = some v → OwnAt g w (own k) d v

structure RelE (g : Gh) (es : List (DV × DV)) (ents : List MapEntry) : Prop where
  len : es.length = ents.length
  at_ : ∀ (k : Nat) (d : DV × DV) (e : MapEntry), es[k]? = some d → ents[k]? = some e → RelV g d.1 e.key ∧ RelV g d.2 e.val

/-- Stamps of a map's entries: each below the clock, each its own. -/
def Stamped (ents : List MapEntry) (clk : Nat) : Prop := (∀ e ∈ ents, e.born < clk) ∧ (ents.map (·.born)).Nodup
theorem Stamped.nil (clk : Nat) : Stamped [] clk := ⟨by simp, by simp⟩
theorem Stamped.push {ents : List MapEntry} {clk : Nat} (h : Stamped ents clk) {e : MapEntry} (he : e.born = clk) : Stamped (ents ++ [e]) (clk + 1) := by
  refine ⟨fun x hx => ?_, ?_⟩
  · rcases List.mem_append.1 hx with hx | hx
    · have := h.1 x hx; omega
    · rw [List.mem_singleton.1 hx, he]; omega
  · rw [List.map_append, List.nodup_append]
    refine ⟨h.2, by simp, fun a ha b hb => ?_⟩
    obtain ⟨x, hx, rfl⟩ := List.mem_map.1 ha
    rw [List.map_cons, List.map_nil, List.mem_singleton] at hb
    have := h.1 x hx
    omega
theorem Stamped.set {ents : List MapEntry} {clk : Nat} (h : Stamped ents clk) {j : Nat} {m e : MapEntry} (hm : ents[j]? = some m) (he : e.born = m.born) : Stamped (ents.set j e) clk := by
  refine ⟨fun x hx => ?_, ?_⟩
  · rcases List.mem_or_eq_of_mem_set hx with hx | rfl
    · exact h.1 x hx
    · rw [he]; exact h.1 m (List.mem_of_getElem? hm)
  · rw [List.map_set, he]
    have : (ents.map (·.born)).set j m.born = ents.map (·.born) := by
      apply List.ext_getElem?
      intro i
      rw [List.getElem?_set]
      split
      · rename_i hij
        subst hij
        rw [List.getElem?_map, hm, if_pos (by simpa using (List.getElem?_eq_some_iff.1 hm).1)]; rfl
      · rfl
    rw [this]; exact h.2
theorem Stamped.erase {ents : List MapEntry} {clk : Nat} (h : Stamped ents clk) (j : Nat) : Stamped (ents.eraseIdx j) clk := by
  refine ⟨fun x hx => h.1 x (List.mem_of_mem_eraseIdx hx), ?_⟩
  exact h.2.sublist ((List.eraseIdx_sublist ents j).map _)

def HeldMap (g : Gh) (w : World) (b : Nat) (kb : Kind) (es : List (DV × DV)) : Prop :=
  ∃ ents clk, w.heap[b]? = some (.map ents clk) ∧ g.kind b = kb ∧ (∀ o, g.pc b o = none) ∧ RelE g es ents.toList ∧ Stamped ents.toList clk

/-- The first cells of a block that is a slice's. -/
def HeldRow (g : Gh) (w : World) (b : Nat) (kb : Kind) (m : Nat) (cs : List DV) : Prop :=
  ∃ vs et, w.heap[b]? = some (.cells vs et (0, 0)) ∧ g.kind b = kb ∧ (∀ o, g.pc b o = none) ∧ RelL g cs (vs.toList.take cs.length) ∧ (∀ c ∈ cs, c.shed = c) ∧ m ≤ vs.size ∧ ∀ v ∈ vs.toList.take cs.length, v.oneCell' = true
def RelO (g : Gh) (w : World) (i : Nat) : DObj → Prop
  | .cells cs => Held g w (g.η i) (.obj i) (fun k => .ownObj i k) cs
  | .map es => HeldMap g w (g.η i) (.obj i) es
  | .row cs => HeldRow g w (g.η i) (.obj i) (g.sz i) cs
  | .dead => True

structure WInv (g : Gh) (h : DHeap) (w : World) : Prop where
  n : h.length = g.n
  pc : ∀ b o v, g.pc b o = some v → w.cell? ⟨b, o, none⟩ = some v
  obj : ∀ i o, h[i]? = some o → RelO g w i o

/-- One slot of the frame at depth d. -/
def RelS (g : Gh) (w : World) (d : Nat) (t : List DV) (tmps : Array Value) (s : Nat) : DV → Value → Prop
  | .box cs, v => ∃ b, v = .pointer (some ⟨b, 0, none⟩) ∧ Held g w b (.box d s) (fun k => .ownCell d s k) cs
  | .path s' off, v => ∀ cs, t[s']? = some (.box cs) → ∃ b, v = .pointer (some ⟨b, off, none⟩) ∧ tmps[s']? = some (.pointer (some ⟨b, 0, none⟩))
  | x, v => RelV g x v ∧ OwnAt g w (.ownSlot d s) x v

structure RelT (g : Gh) (w : World) (d : Nat) (t : List DV) (tmps : Array Value) : Prop where
  len : t.length = tmps.size
  at_ : ∀ (s : Nat) (x : DV) (v : Value), t[s]? = some x → tmps[s]? = some v → RelS g w d t tmps s x v

def DV.isBox : DV → Bool
  | .box _ => true
  | _ => false
def DV.isPath : DV → Bool
  | .path _ _ => true
  | _ => false
/-- What may leave the frame. -/
def DV.plain (x : DV) : Bool := !x.isBox && !x.isPath

theorem RelS.plain_iff {g : Gh} {w : World} {d : Nat} {t : List DV} {tmps : Array Value} {s : Nat} {x : DV} {v : Value} (hx : x.plain = true) :
    RelS g w d t tmps s x v ↔ RelV g x v ∧ OwnAt g w (.ownSlot d s) x v := by
  cases x <;> simp [RelS, DV.plain, DV.isBox, DV.isPath] at *

theorem RelT.get {g : Gh} {w : World} {d : Nat} {t : List DV} {tmps : Array Value} (h : RelT g w d t tmps) {s : Nat} {x : DV} (hx : t[s]? = some x) :
    ∃ v, tmps[s]? = some v ∧ RelS g w d t tmps s x v := by
  have hs : s < t.length := (List.getElem?_eq_some_iff.1 hx).1
  have hs' : s < tmps.size := h.len ▸ hs
  exact ⟨tmps[s], Array.getElem?_eq_getElem hs', h.at_ s x _ hx (Array.getElem?_eq_getElem hs')⟩

theorem RelT.getV {g : Gh} {w : World} {d : Nat} {t : List DV} {tmps : Array Value} (h : RelT g w d t tmps) {s : Nat} {x : DV} (hx : t[s]? = some x) (hp : x.plain = true) :
    ∃ v, tmps[s]? = some v ∧ RelV g x v ∧ OwnAt g w (.ownSlot d s) x v := by
  obtain ⟨v, hv, hr⟩ := h.get hx
  exact ⟨v, hv, (RelS.plain_iff hp).1 hr⟩

/-- Blocks that a call at depth d leaves alone. -/
def Keep (d : Nat) : Kind → Prop
  | .foreign => True
  | .data => True
  | .obj _ => False
  | .ownObj _ _ => False
  | .box d' _ => d' < d
  | .ownSlot d' _ => d' < d
  | .ownCell d' _ _ => d' < d

theorem Keep.mono {d d' : Nat} (h : d ≤ d') {k : Kind} (hk : Keep d k) : Keep d' k := by
  cases k <;> simp only [Keep] at * <;> omega

/-- Is it said that the count of what was drawn never falls? -/
class Mono where
  on : Bool
set_option linter.unusedSectionVars false
variable [M : Mono]

structure Ext (d : Nat) (g g' : Gh) (w w' : World) : Prop where
  le : Gh.Le g g'
  heap : ∀ b, b < w.heap.size → Keep d (g.kind b) → w'.heap[b]? = w.heap[b]?
  kind : ∀ b, b < w.heap.size → Keep d (g.kind b) → g'.kind b = g.kind b
  pc : ∀ b, b < w.heap.size → Keep d (g.kind b) → g'.pc b = g.pc b
  size : w.heap.size ≤ w'.heap.size
  os : w'.os = w.os
  tape : w'.tape = w.tape
  output : w'.output = w.output
  drawn : M.on = true → w.drawn ≤ w'.drawn

theorem Ext.refl (d : Nat) (g : Gh) (w : World) : Ext d g g w w := ⟨.refl g, fun _ _ _ => rfl, fun _ _ _ => rfl, fun _ _ _ => rfl, Nat.le_refl _, rfl, rfl, rfl, fun _ => Nat.le_refl _⟩

theorem Ext.trans {d : Nat} {g₁ g₂ g₃ : Gh} {w₁ w₂ w₃ : World} (h : Ext d g₁ g₂ w₁ w₂) (k : Ext d g₂ g₃ w₂ w₃) : Ext d g₁ g₃ w₁ w₃ where
  le := h.le.trans k.le
  heap b hb hk := by rw [k.heap b (Nat.lt_of_lt_of_le hb h.size) (by rw [h.kind b hb hk]; exact hk), h.heap b hb hk]
  kind b hb hk := by rw [k.kind b (Nat.lt_of_lt_of_le hb h.size) (by rw [h.kind b hb hk]; exact hk), h.kind b hb hk]
  pc b hb hk := by rw [k.pc b (Nat.lt_of_lt_of_le hb h.size) (by rw [h.kind b hb hk]; exact hk), h.pc b hb hk]
  size := Nat.le_trans h.size k.size
  os := k.os.trans h.os
  tape := k.tape.trans h.tape
  output := k.output.trans h.output
  drawn hm := Nat.le_trans (h.drawn hm) (k.drawn hm)

theorem Ext.mono {d d' : Nat} (hd : d ≤ d') {g g' : Gh} {w w' : World} (h : Ext d' g g' w w') : Ext d g g' w w' where
  le := h.le
  heap b hb hk := h.heap b hb (hk.mono hd)
  kind b hb hk := h.kind b hb (hk.mono hd)
  pc b hb hk := h.pc b hb (hk.mono hd)
  size := h.size
  os := h.os
  tape := h.tape
  output := h.output
  drawn := h.drawn

omit [M : Mono] in
theorem lt_of_heap {w : World} {b : Nat} {o : Obj} (h : w.heap[b]? = some o) : b < w.heap.size := by
  rcases Nat.lt_or_ge b w.heap.size with h' | h'
  · exact h'
  · rw [Array.getElem?_eq_none h'] at h; cases h

/-- A change of the world and the ghost state at one block (or at none that was there: b a new one). -/
structure Touch (b : Nat) (g g' : Gh) (w w' : World) : Prop where
  heap : ∀ k, k ≠ b → k < w.heap.size → w'.heap[k]? = w.heap[k]?
  pcb : ∀ o v, g.pc b o = some v → g'.pc b o = some v
  pcx : ∀ k, k ≠ b → g'.pc k = g.pc k
  pcw : ∀ o v, g'.pc b o = some v → w'.cell? ⟨b, o, none⟩ = some v
  kind : ∀ k, k ≠ b → g'.kind k = g.kind k
  n : g.n ≤ g'.n
  η : ∀ i, i < g.n → g'.η i = g.η i
  sz : ∀ i, i < g.n → g'.sz i = g.sz i
  size : w.heap.size ≤ w'.heap.size
  os : w'.os = w.os
  tape : w'.tape = w.tape
  output : w'.output = w.output
  drawn : M.on = true → w.drawn ≤ w'.drawn

omit [M : Mono] in
theorem cell_of_heap {w w' : World} {b o : Nat} (h : w'.heap[b]? = w.heap[b]?) : w'.cell? ⟨b, o, none⟩ = w.cell? ⟨b, o, none⟩ := by
  simp only [World.cell?, h]

omit [M : Mono] in
theorem lt_of_cell {w : World} {b o : Nat} {v : Value} (h : w.cell? ⟨b, o, none⟩ = some v) : b < w.heap.size := by
  rcases Nat.lt_or_ge b w.heap.size with h' | h'
  · exact h'
  · simp [World.cell?, Array.getElem?_eq_none h'] at h

section
variable {b : Nat} {g g' : Gh} {w w' : World}

theorem Touch.le (h : Touch b g g' w w') : Gh.Le g g' where
  n := h.n
  η := h.η
  pc k o v hv := by
    by_cases hk : k = b
    · subst hk; exact h.pcb o v hv
    · rw [h.pcx k hk]; exact hv
  sz := h.sz

theorem Touch.ext (h : Touch b g g' w w') {d : Nat} (hb : w.heap.size ≤ b ∨ ¬ Keep d (g.kind b)) : Ext d g g' w w' := by
  have hne : ∀ k, k < w.heap.size → Keep d (g.kind k) → k ≠ b := fun k hk hkp e => by
    subst e; rcases hb with hb | hb
    · omega
    · exact hb hkp
  exact ⟨h.le, fun k hk hkp => h.heap k (hne k hk hkp) hk, fun k hk hkp => h.kind k (hne k hk hkp), fun k hk hkp => h.pcx k (hne k hk hkp), h.size, h.os, h.tape, h.output, h.drawn⟩

theorem Touch.own (h : Touch b g g' w w') {p : Kind} {d : DV} {v : Value} (hb : w.heap.size ≤ b ∨ g.kind b ≠ p) (ho : OwnAt g w p d v) : OwnAt g' w' p d v := by
  intro es l a cap o1 o2 hlt
  obtain ⟨b', off, c, et, ha, hk, hh, hsz, hpc⟩ := ho es l a cap o1 o2 hlt
  have hl := lt_of_heap hh
  have hne : b' ≠ b := fun e => by
    subst e; rcases hb with hb | hb
    · omega
    · exact hb hk
  exact ⟨b', off, c, et, ha, (h.kind b' hne).trans hk, (h.heap b' hne hl).trans hh, hsz, by rw [h.pcx b' hne]; exact hpc⟩

theorem Touch.held (h : Touch b g g' w w') {b' : Nat} {kb : Kind} {own : Nat → Kind} {cs : List DV} (hb : w.heap.size ≤ b ∨ (g.kind b ≠ kb ∧ ∀ k, g.kind b ≠ own k))
    (hh : Held g w b' kb own cs) : Held g' w' b' kb own cs := by
  obtain ⟨vs, et, h1, h2, h3, h4, h5⟩ := hh
  have hl := lt_of_heap h1
  have hne : b' ≠ b := fun e => by
    subst e; rcases hb with hb | hb
    · omega
    · exact hb.1 h2
  exact ⟨vs, et, (h.heap b' hne hl).trans h1, (h.kind b' hne).trans h2, by rw [h.pcx b' hne]; exact h3, h4.mono h.le,
    fun k d v hd hv => h.own (hb.imp id (fun x => x.2 k)) (h5 k d v hd hv)⟩

theorem Touch.heldMap (h : Touch b g g' w w') {b' : Nat} {kb : Kind} {es : List (DV × DV)} (hb : w.heap.size ≤ b ∨ g.kind b ≠ kb)
    (hh : HeldMap g w b' kb es) : HeldMap g' w' b' kb es := by
  obtain ⟨ents, clk, h1, h2, h3, h4, hst⟩ := hh
  have hl := lt_of_heap h1
  have hne : b' ≠ b := fun e => by
    subst e; rcases hb with hb | hb
    · omega
    · exact hb h2
  exact ⟨ents, clk, (h.heap b' hne hl).trans h1, (h.kind b' hne).trans h2, by rw [h.pcx b' hne]; exact h3, ⟨h4.len,
    fun k d e hd he => ⟨(h4.at_ k d e hd he).1.mono h.le, (h4.at_ k d e hd he).2.mono h.le⟩⟩, hst⟩

theorem Touch.heldRow (h : Touch b g g' w w') {b' : Nat} {kb : Kind} {m : Nat} {cs : List DV} (hb : w.heap.size ≤ b ∨ g.kind b ≠ kb)
    (hh : HeldRow g w b' kb m cs) : HeldRow g' w' b' kb m cs := by
  obtain ⟨vs, et, h1, h2, h3, h4, h5, h6⟩ := hh
  have hl := lt_of_heap h1
  have hne : b' ≠ b := fun e => by
    subst e; rcases hb with hb | hb
    · omega
    · exact hb h2
  exact ⟨vs, et, (h.heap b' hne hl).trans h1, (h.kind b' hne).trans h2, by rw [h.pcx b' hne]; exact h3, h4.mono h.le, h5, h6⟩

theorem Touch.relO (h : Touch b g g' w w') {i : Nat} {o : DObj} (hi : i < g.n) (hb : w.heap.size ≤ b ∨ (g.kind b ≠ .obj i ∧ ∀ k, g.kind b ≠ .ownObj i k))
    (ho : RelO g w i o) : RelO g' w' i o := by
  cases o with
  | cells cs => simp only [RelO, h.η i hi] at *; exact h.held hb ho
  | map es => simp only [RelO, h.η i hi] at *; exact h.heldMap (hb.imp id (fun x => x.1)) ho
  | row cs => simp only [RelO, h.η i hi, h.sz i hi] at *; exact h.heldRow (hb.imp id (fun x => x.1)) ho
  | dead => trivial

theorem Touch.relS (h : Touch b g g' w w') {d : Nat} {t : List DV} {tmps : Array Value} {s : Nat} {x : DV} {v : Value}
    (hb : w.heap.size ≤ b ∨ (g.kind b ≠ .box d s ∧ g.kind b ≠ .ownSlot d s ∧ ∀ k, g.kind b ≠ .ownCell d s k)) (hr : RelS g w d t tmps s x v) : RelS g' w' d t tmps s x v := by
  by_cases hp : x.plain = true
  · rw [RelS.plain_iff hp] at *
    exact ⟨hr.1.mono h.le, h.own (hb.imp id (fun y => y.2.1)) hr.2⟩
  · cases x <;> simp [DV.plain, DV.isBox, DV.isPath] at hp
    · obtain ⟨b', hv, hh⟩ := hr
      exact ⟨b', hv, h.held (hb.imp id (fun y => ⟨y.1, y.2.2⟩)) hh⟩
    · exact hr

theorem Touch.pc (h : Touch b g g' w w') (hp : ∀ b o v, g.pc b o = some v → w.cell? ⟨b, o, none⟩ = some v) :
    ∀ b o v, g'.pc b o = some v → w'.cell? ⟨b, o, none⟩ = some v := by
  intro k o v hv
  by_cases hk : k = b
  · subst hk; exact h.pcw o v hv
  · rw [h.pcx k hk] at hv
    have hc := hp k o v hv
    rw [cell_of_heap (h.heap k hk (lt_of_cell hc))]; exact hc

/-- Nothing of the heap turns. -/
theorem Touch.winv (h : Touch b g g' w w') {hp : DHeap} (hn : g'.n = g.n) (hb : w.heap.size ≤ b ∨ (∀ i, g.kind b ≠ .obj i) ∧ ∀ i k, g.kind b ≠ .ownObj i k) (hw : WInv g hp w) : WInv g' hp w' where
  n := hw.n.trans hn.symm
  pc := h.pc hw.pc
  obj i o ho := h.relO (hw.n ▸ (List.getElem?_eq_some_iff.1 ho).1) (hb.imp id (fun x => ⟨x.1 i, x.2 i⟩)) (hw.obj i o ho)

/-- Nothing of the frame turns. -/
theorem Touch.relT (h : Touch b g g' w w') {d : Nat} {t : List DV} {tmps : Array Value}
    (hb : w.heap.size ≤ b ∨ ((∀ s, g.kind b ≠ .box d s) ∧ (∀ s, g.kind b ≠ .ownSlot d s) ∧ ∀ s k, g.kind b ≠ .ownCell d s k)) (hr : RelT g w d t tmps) : RelT g' w' d t tmps where
  len := hr.len
  at_ s x v hx hv := h.relS (hb.imp id (fun y => ⟨y.1 s, y.2.1 s, y.2.2 s⟩)) (hr.at_ s x v hx hv)
end

/-- What a callee at a greater depth leaves of a frame. -/
theorem Ext.own {d : Nat} {g g' : Gh} {w w' : World} (h : Ext d g g' w w') {p : Kind} (hp : Keep d p) {x : DV} {v : Value} (ho : OwnAt g w p x v) : OwnAt g' w' p x v := by
  intro es l a cap o1 o2 hlt
  obtain ⟨b', off, c, et, ha, hk, hh, hsz, hpc⟩ := ho es l a cap o1 o2 hlt
  have hl := lt_of_heap hh
  have hkp : Keep d (g.kind b') := hk ▸ hp
  exact ⟨b', off, c, et, ha, (h.kind b' hl hkp).trans hk, (h.heap b' hl hkp).trans hh, hsz, by rw [h.pc b' hl hkp]; exact hpc⟩

theorem Ext.held {d : Nat} {g g' : Gh} {w w' : World} (h : Ext d g g' w w') {b : Nat} {kb : Kind} {own : Nat → Kind} {cs : List DV} (hp : Keep d kb) (hq : ∀ k, Keep d (own k))
    (hh : Held g w b kb own cs) : Held g' w' b kb own cs := by
  obtain ⟨vs, et, h1, h2, h3, h4, h5⟩ := hh
  have hl := lt_of_heap h1
  have hkp : Keep d (g.kind b) := h2 ▸ hp
  exact ⟨vs, et, (h.heap b hl hkp).trans h1, (h.kind b hl hkp).trans h2, by rw [h.pc b hl hkp]; exact h3, h4.mono h.le, fun k x v hx hv => h.own (hq k) (h5 k x v hx hv)⟩

theorem Ext.relT {d d' : Nat} {g g' : Gh} {w w' : World} (h : Ext d' g g' w w') (hd : d < d') {t : List DV} {tmps : Array Value} (hr : RelT g w d t tmps) : RelT g' w' d t tmps where
  len := hr.len
  at_ s x v hx hv := by
    have hs := hr.at_ s x v hx hv
    by_cases hp : x.plain = true
    · rw [RelS.plain_iff hp] at *
      exact ⟨hs.1.mono h.le, h.own (by simp [Keep]; exact hd) hs.2⟩
    · cases x <;> simp [DV.plain, DV.isBox, DV.isPath] at hp
      · obtain ⟨b', hv', hh⟩ := hs
        exact ⟨b', hv', h.held (by simp [Keep]; exact hd) (fun k => by simp [Keep]; exact hd) hh⟩
      · exact hs

omit [M : Mono] in
/-- A slot is set: to what may leave the frame, or to a place in a variable. -/
theorem RelT.set {g : Gh} {w : World} {d : Nat} {t : List DV} {tmps : Array Value} (h : RelT g w d t tmps) (s : Nat) {x : DV} {v : Value} (hb : x.isBox = false)
    (hx : RelS g w d (t.set s x) (tmps.setIfInBounds s v) s x v) : RelT g w d (t.set s x) (tmps.setIfInBounds s v) where
  len := by simp [h.len]
  at_ s' y u hy hu := by
    by_cases e : s = s'
    · subst e
      have hs : s < t.length := by
        have := (List.getElem?_eq_some_iff.1 hy).1; simpa using this
      rw [List.getElem?_set_self hs] at hy
      rw [Array.getElem?_setIfInBounds_self_of_lt (h.len ▸ hs)] at hu
      cases hy; cases hu; exact hx
    · rw [List.getElem?_set_ne e] at hy
      rw [Array.getElem?_setIfInBounds_ne e] at hu
      have hr := h.at_ s' y u hy hu
      by_cases hp : y.plain = true
      · rw [RelS.plain_iff hp] at *; exact hr
      · cases y <;> simp [DV.plain, DV.isBox, DV.isPath] at hp
        · exact hr
        · rename_i s₁ off
          intro cs hcs
          by_cases e₁ : s = s₁
          · subst e₁
            rw [List.getElem?_set] at hcs
            simp only [if_true] at hcs
            split at hcs
            · cases hcs; simp [DV.isBox] at hb
            · cases hcs
          · rw [List.getElem?_set_ne e₁] at hcs
            rw [Array.getElem?_setIfInBounds_ne e₁]
            exact hr cs hcs

omit [M : Mono] in
/-- A slot's clean value is weakened, the slot stays as it is. -/
theorem RelT.weaken {g : Gh} {w : World} {d : Nat} {t : List DV} {tmps : Array Value} (h : RelT g w d t tmps) (s : Nat) {y : DV} (hb : y.isBox = false)
    (hy : ∀ x v, t[s]? = some x → tmps[s]? = some v → RelS g w d t tmps s x v → RelS g w d (t.set s y) tmps s y v) : RelT g w d (t.set s y) tmps where
  len := by simp [h.len]
  at_ s' z u hz hu := by
    by_cases e : s = s'
    · subst e
      have hs : s < t.length := by
        have := (List.getElem?_eq_some_iff.1 hz).1; simpa using this
      rw [List.getElem?_set_self hs] at hz
      cases hz
      exact hy t[s] u (List.getElem?_eq_getElem hs) hu (h.at_ s _ u (List.getElem?_eq_getElem hs) hu)
    · rw [List.getElem?_set_ne e] at hz
      have hr := h.at_ s' z u hz hu
      by_cases hp : z.plain = true
      · rw [RelS.plain_iff hp] at *; exact hr
      · cases z <;> simp [DV.plain, DV.isBox, DV.isPath] at hp
        · exact hr
        · rename_i s₁ off
          intro cs hcs
          by_cases e₁ : s = s₁
          · subst e₁
            rw [List.getElem?_set] at hcs
            simp only [if_true] at hcs
            split at hcs
            · cases hcs; simp [DV.isBox] at hb
            · cases hcs
          · rw [List.getElem?_set_ne e₁] at hcs
            exact hr cs hcs

omit [M : Mono] in
theorem RelT.junk {g : Gh} {w : World} {d : Nat} {t : List DV} {tmps : Array Value} (h : RelT g w d t tmps) (s : Nat) : RelT g w d (t.set s .junk) tmps :=
  h.weaken s rfl fun _ _ _ _ _ => ⟨.junk _, OwnAt.none rfl⟩

end Go.DS

/-
  What of the model's operations needs no memory; the types' sizes.
-/
namespace Go.DS
open Go
set_option linter.unusedVariables false

/-- The answer of a computation that asks nothing of the world. -/
def det {α : Type} (P : Program) : Sem α → Option α
  | .pure a => some a
  | .program k => det P (k P)
  | .mark _ k => det P k
  | _ => none

theorem det_run {α : Type} {P : Program} : ∀ (s : Sem α) {a : α}, det P s = some a → ∀ w, s.run P w = .ok a w
  | .pure b, a, h, w => by simp [det] at h; subst h; rfl
  | .program k, a, h, w => by
    simp only [det] at h
    simp only [Sem.run]; exact det_run (k P) h w
  | .mark _ k, a, h, w => by
    simp only [det] at h
    simp only [Sem.run]; exact det_run k h w
  | .load .., a, h, w => by simp [det] at h
  | .store .., a, h, w => by simp [det] at h
  | .new .., a, h, w => by simp [det] at h
  | .shape .., a, h, w => by simp [det] at h
  | .freeze .., a, h, w => by simp [det] at h
  | .frozen .., a, h, w => by simp [det] at h
  | .getObj .., a, h, w => by simp [det] at h
  | .setObj .., a, h, w => by simp [det] at h
  | .choose .., a, h, w => by simp [det] at h
  | .sys .., a, h, w => by simp [det] at h
  | .halt .., a, h, w => by simp [det] at h

/-- A clean value that names no memory, as a value of the model. -/
def toVal : DV → Option Value
  | .sc v => some v
  | .iface t d => (toVal d).map (Value.iface t)
  | .agg cs => (toVals cs).map fun vs => Value.agg vs.toArray
  | .tup cs => (toVals cs).map fun vs => Value.tuple vs.toArray
  | _ => none
where
  toVals : List DV → Option (List Value)
    | [] => some []
    | d :: ds => match toVal d, toVals ds with
      | some v, some vs => some (v :: vs)
      | _, _ => none

theorem toVals_len : ∀ {ds : List DV} {vs : List Value}, toVal.toVals ds = some vs → ds.length = vs.length
  | [], vs, h => by simp [toVal.toVals] at h; subst h; rfl
  | d :: ds, vs, h => by
    simp only [toVal.toVals] at h
    cases hd : toVal d with
    | none => simp [hd] at h
    | some v =>
      cases hs : toVal.toVals ds with
      | none => simp [hd, hs] at h
      | some us => simp [hd, hs] at h; subst h; simp [toVals_len hs]

theorem toVals_get : ∀ {ds : List DV} {vs : List Value}, toVal.toVals ds = some vs → ∀ (k : Nat) (d : DV), ds[k]? = some d → ∃ v, vs[k]? = some v ∧ toVal d = some v
  | [], vs, h, k, d, hd => by simp at hd
  | e :: ds, vs, h, k, d, hd => by
    simp only [toVal.toVals] at h
    cases he : toVal e with
    | none => simp [he] at h
    | some v =>
      cases hs : toVal.toVals ds with
      | none => simp [he, hs] at h
      | some us =>
        simp [he, hs] at h; subst h
        cases k with
        | zero => simp at hd; subst hd; exact ⟨v, rfl, he⟩
        | succ k => simp at hd; obtain ⟨u, hu, hv⟩ := toVals_get hs k d hd; exact ⟨u, by simpa using hu, hv⟩

theorem RelV.toVal {g : Gh} {d : DV} {v : Value} (h : RelV g d v) : ∀ {u : Value}, toVal d = some u → v = u := by
  induction h with
  | sc v => intro u hu; simpa [DS.toVal] using hu
  | iface h ih =>
    intro u hu
    simp only [DS.toVal] at hu
    rename_i t d v
    cases hd : DS.toVal d with
    | none => simp [hd] at hu
    | some x => simp [hd] at hu; subst hu; rw [ih hd]
  | agg h1 h2 ih =>
    intro u hu
    rename_i cs vs
    simp only [DS.toVal] at hu
    cases hd : DS.toVal.toVals cs with
    | none => simp [hd] at hu
    | some us =>
      simp [hd] at hu; subst hu
      have : vs = us := by
        apply List.ext_getElem?
        intro k
        cases hk : cs[k]? with
        | none =>
          have hl : cs.length ≤ k := List.getElem?_eq_none_iff.1 hk
          rw [List.getElem?_eq_none (h1 ▸ hl), List.getElem?_eq_none (toVals_len hd ▸ hl)]
        | some d =>
          obtain ⟨x, hx, hv⟩ := toVals_get hd k d hk
          have hl : k < vs.length := h1 ▸ (List.getElem?_eq_some_iff.1 hk).1
          rw [hx, List.getElem?_eq_getElem hl, ih k d _ hk (List.getElem?_eq_getElem hl) hv]
      rw [this]
  | tup h1 h2 ih =>
    intro u hu
    rename_i cs vs
    simp only [DS.toVal] at hu
    cases hd : DS.toVal.toVals cs with
    | none => simp [hd] at hu
    | some us =>
      simp [hd] at hu; subst hu
      have : vs = us := by
        apply List.ext_getElem?
        intro k
        cases hk : cs[k]? with
        | none =>
          have hl : cs.length ≤ k := List.getElem?_eq_none_iff.1 hk
          rw [List.getElem?_eq_none (h1 ▸ hl), List.getElem?_eq_none (toVals_len hd ▸ hl)]
        | some d =>
          obtain ⟨x, hx, hv⟩ := toVals_get hd k d hk
          have hl : k < vs.length := h1 ▸ (List.getElem?_eq_some_iff.1 hk).1
          rw [hx, List.getElem?_eq_getElem hl, ih k d _ hk (List.getElem?_eq_getElem hl) hv]
      rw [this]
  | junk v => intro u hu; simp [DS.toVal] at hu
  | ptr hi => intro u hu; simp [DS.toVal] at hu
  | mp hi => intro u hu; simp [DS.toVal] at hu
  | eptr => intro u hu; simp [DS.toVal] at hu
  | list => intro u hu; simp [DS.toVal] at hu
  | empty => intro u hu; simp [DS.toVal] at hu
  | vec => intro u hu; simp [DS.toVal] at hu
  | rptr => intro u hu; simp [DS.toVal] at hu
  | vec0 => intro u hu; simp [DS.toVal] at hu
  | fn => intro u hu; simp [DS.toVal] at hu

theorem toVal_plain {d : DV} {u : Value} (h : toVal d = some u) : d.plain = true := by
  cases d <;> simp [toVal, DV.plain, DV.isBox, DV.isPath] at *

end Go.DS

/-
  The evaluator of the clean semantics.
-/
namespace Go.DS
open Go
set_option linter.unusedVariables false

/-- What a run of the evaluator is told. pure: functions that run on a heap of their own. esc: variables that live in the clean heap. xfer: moves and loads that hand the right to append on. keep: the slots that are kept behind a region (its number), or ahead of a round (of the loop whose first region has it, 100000 more). ext: functions that are told by a proof of their own. gc: functions behind which what they made in the heap is forgotten. raw: the cells of a struct that is built that are told as they are (a slice: as nil). look: functions told by a proof that leave the heap as it is. -/
structure Cfg where
  pure : FuncId → Bool
  esc : FuncId → Tmp → Bool
  xfer : FuncId → Tmp → Bool
  keep : FuncId → Nat → Option (List Tmp)
  ext : FuncId → Option (List DV → DHeap → Option (DV × DHeap))
  gc : FuncId → Bool := fun _ => false
  raw : FuncId → Tmp → List Nat := fun _ _ => []
  look : FuncId → Bool := fun _ => false
  lookOK : ∀ k, look k = true → ∃ F, ext k = some F ∧ ∀ args h r h', F args h = some (r, h') → h' = h := by exact fun k hk => Bool.noConfusion hk

/-- Is it of many cells, by its kind; how many cells. -/
def aggD : TypeDesc → Bool
  | .struct _ | .array _ _ => true
  | _ => false
def tinfo (P : Program) (t : TypeId) : Option (Bool × Nat) := match P.info? t, P.underlying t with
  | some i, some d => some (aggD d, i.size)
  | _, _ => none
def sz (P : Program) (t : TypeId) : Nat := match P.info? t with | some i => i.size | none => 0
def elemOfSlice (P : Program) (t : TypeId) : Option TypeId := match P.underlying t with | some (.slice e) => some e | _ => none
def elemSz (P : Program) (t : TypeId) : Nat := match elemOfSlice P t with | some e => sz P e | none => 0

/-- The leaves of a type, in the order of their cells. -/
def leaves (P : Program) : Nat → TypeId → List TypeId
  | 0, t => [t]
  | n + 1, t => match P.underlying t with
    | some (.struct fs) => fs.toList.flatMap fun f => leaves P n f.type
    | some (.array k e) => (List.replicate k (leaves P n e)).flatten
    | _ => [t]

/-- A constant, as a clean value: nil slices by their type. -/
def c1 (P : Program) (ty : TypeId) : Value → DV
  | .slice none 0 0 => .list true (elemSz P ty) []
  | .func f fs cs => if fs.isEmpty && cs.isEmpty then .fn f [] [] else .sc (.func f fs cs)
  | v => .sc v
def cz (P : Program) : List TypeId → List Value → List DV
  | t :: ts, v :: vs => c1 P t v :: cz P ts vs
  | [], v :: vs => .sc v :: cz P [] vs
  | _, [] => []
def cst (P : Program) (ty : TypeId) : Value → DV
  | .agg vs => .agg (cz P (leaves P 8 ty) vs.toList)
  | v => c1 P ty v

/-- An operand; a variable of the frame stands for its address. -/
def opnd (P : Program) (ty : TypeId) (t : List DV) : Operand → DV
  | .tmp s => match t[s]? with
    | some (.box _) => .path s 0
    | some x => x
    | none => .junk
  | .const v => cst P ty v
  | .global g => .sc (.pointer (some ⟨g, 0, none⟩))
  | .func f => .fn (.func f) [] []

/-- What may lie in one cell of memory. -/
def DV.cell : DV → Bool
  | .sc v => v.oneCell'
  | .list .. | .ptr .. | .eptr .. | .mp .. | .fn .. | .iface .. | .vec .. | .rptr .. => true
  | _ => false

/-- The cells of a value. -/
def cellsD : DV → List DV
  | .agg cs => cs.map DV.shed
  | d => [d]

/-- The cells of a zero value: nil slices may be appended to. -/
def cellsZ : DV → List DV
  | .agg cs => cs
  | d => [d]

def zcells (r : Bool) (z : DV) : List DV := if r then cellsZ z else cellsD z.shed
/-- What a type is to a nil slice: its elements' cells and 2; 1 where it is no slice. -/
def elK (P : Program) (ty : TypeId) : Nat := match elemOfSlice P ty with
  | some e => sz P e + 2
  | none => 1
/-- A nil slice that is told as it is, as a list. -/
def unraw (k : Nat) : DV → DV
  | .sc (.slice none 0 0) => if 2 ≤ k then .list true (k - 2) [] else .sc (.slice none 0 0)
  | d => d
/-- A value out of cells. -/
def ofCells (P : Program) (ty : TypeId) (cs : List DV) : Option DV :=
  match tinfo P ty with
  | some (true, n) => if n ≤ cs.length then some (.agg ((cs.take n).map DV.shed)) else none
  | some (false, _) => match cs with
    | c :: _ => some (unraw (elK P ty) c.shed)
    | [] => none
  | none => none

/-- As ofCells; r: a nil slice stays as it is. -/
def ofCellsR (P : Program) (r : Bool) (ty : TypeId) (cs : List DV) : Option DV := if r then (match tinfo P ty with
  | some (false, _) => match cs with
    | c :: _ => some c.shed
    | [] => none
  | _ => none) else ofCells P ty cs
/-- The cells at a place. -/
def cellsAt (t : List DV) (h : DHeap) : DV → Option (List DV)
  | .path s off => match t[s]? with
    | some (.box cs) => some (cs.drop off)
    | _ => none
  | .ptr i off => match h[i]? with
    | some (.cells cs) => some (cs.drop off)
    | _ => none
  | .rptr i off => match h[i]? with
    | some (.row cs) => some (cs.drop off)
    | _ => none
  | .eptr cs => some cs
  | _ => none

def fieldOff (P : Program) (s : TypeId) (f : Nat) : Option (TypeId × Nat) :=
  match P.underlying s with
  | some (.struct fs) => match fs[f]? with
    | some fl => if sz P fl.type = 0 then none else some (fl.type, fl.offset)
    | none => none
  | _ => none

def moveD (t : List DV) (n : Nat) : DV → Option DV
  | .path s off => match t[s]? with
    | some (.box _) => some (.path s (off + n))
    | _ => none
  | .ptr i off => some (.ptr i (off + n))
  | .rptr i off => some (.rptr i (off + n))
  | .eptr cs => some (.eptr (cs.drop n))
  | _ => none

/-- Types whose == is that of their cells, each a whole number (0), a bool (1) or a string (2). -/
def goK (F : TypeId → Option (List Nat)) : List Field → Nat → Option (List Nat)
  | [], _ => some []
  | f :: fs, k => if f.name ≠ "_" ∧ f.offset = k then match F f.type with
      | some l => match goK F fs (k + l.length) with
        | some m => some (l ++ m)
        | none => none
      | none => none
    else none
def flatK (P : Program) : Nat → TypeId → Option (List Nat)
  | 0, _ => none
  | n + 1, t => match P.underlying t, tinfo P t with
    | some (.int _), some (false, 1) => some [0]
    | some .bool, some (false, 1) => some [1]
    | some .string, some (false, 1) => some [2]
    | some (.struct fs), some (true, m) => if P.stoodInHeld t = true then none else match goK (flatK P n) fs.toList 0 with
      | some l => if l.length = m then some l else none
      | none => none
    | _, _ => none

def eq1 : Nat → Value → Value → Option Bool
  | 0, .int k a, .int k' b => if k = k' then some (a == b) else none
  | 1, .bool a, .bool b => some (a == b)
  | 2, .string a, .string b => some (a == b)
  | _, _, _ => none
def eqV : List Nat → List Value → List Value → Option Bool
  | [], [], [] => some true
  | k :: ks, a :: x, b :: y => match eq1 k a b, eqV ks x y with
    | some p, some q => some (p && q)
    | _, _ => none
  | _, _, _ => none
def scs : List DV → Option (List Value)
  | [] => some []
  | .sc a :: x => match scs x with
    | some y => some (a :: y)
    | none => none
  | _ => none
def eqs (ks : List Nat) (a b : List DV) : Option Bool := match scs a, scs b with
  | some x, some y => eqV ks x y
  | _, _ => none

/-- Is a value that may be nil there? -/
def isNil : TypeDesc → DV → Option Bool
  | .pointer _, .sc (.pointer none) => some true
  | .pointer _, .ptr .. | .pointer _, .eptr .. | .pointer _, .rptr .. => some false
  | .map _ _, .sc (.map none) => some true
  | .map _ _, .mp .. => some false
  | .func _ _ _, .sc .nilFunc => some true
  | .func _ _ _, .fn .. => some false
  | _, _ => none

def binD (P : Program) (op : BinOp) (ty : TypeId) (x y : Operand) (a b : DV) : Option DV :=
  match a, b with
  | .sc (.int k m), .sc (.int k' n) => (det P (binOp op ty (.int k m) (.int k' n))).map DV.sc
  | .sc (.string s), .sc (.string u) => (det P (binOp op ty (.string s) (.string u))).map DV.sc
  | .sc (.bool p), .sc (.bool q) => match op, P.underlying ty with
    | .eql, some .bool => some (.sc (.bool (p == q)))
    | .neq, some .bool => some (.sc (.bool (!(p == q))))
    | _, _ => none
  | .agg xs, .agg ys => match flatK P 8 ty, tinfo P ty, P.eqGuardType P.depth ty with
    | some ks, some (true, _), false => match op, eqs ks xs ys with
      | .eql, some r => some (.sc (.bool r))
      | .neq, some r => some (.sc (.bool (!r)))
      | _, _ => none
    | _, _, _ => none
  | a, b => match P.underlying ty with
    | some u => match op, isNil u a, isNil u b with
      | .eql, some p, some q => if p || q then some (.sc (.bool (p && q))) else none
      | .neq, some p, some q => if p || q then some (.sc (.bool (!(p && q)))) else none
      | _, _, _ => none
    | none => none

def bytesD (s : ByteArray) : List (List DV) := s.data.toList.map fun b => [.sc (.int .u8 b.toNat)]

def lenD (P : Program) (ty : TypeId) (h : DHeap) : DV → Option Nat
  | .sc (.string s) => match P.underlying ty with | some .string => some s.size | _ => none
  | .list _ _ l => match P.underlying ty with | some (.slice _) => some l.length | _ => none
  | .vec _ _ _ n => match P.underlying ty with | some (.slice _) => some n | _ => none
  | .sc (.slice none 0 0) => match P.underlying ty with | some (.slice _) => some 0 | _ => none
  | .sc (.map none) => match P.underlying ty with | some (.map _ _) => some 0 | _ => none
  | .mp i => match P.underlying ty, h[i]? with
    | some (.map _ _), some (.map es) => some es.length
    | _, _ => none
  | _ => none

def intD : DV → Option Int
  | .sc (.int _ n) => some n
  | _ => none

def mmI (mx : Bool) (a b : Int) : Int := if mx then (if b > a then b else a) else (if b < a then b else a)
def mmD (mx : Bool) : DV → DV → Option DV
  | .sc (.int k a), .sc (.int _ b) => some (.sc (.int k (mmI mx a b)))
  | _, _ => none

def boundD (dflt : Nat) (top : Nat) : Option DV → Option Nat
  | none => some dflt
  | some d => match intD d with
    | some i => if 0 ≤ i ∧ i ≤ top then some i.toNat else none
    | none => none

/-- x[lo:hi:max]. -/
def sliceD (P : Program) (ty : TypeId) (x : DV) (lo hi mx : Option DV) : Option DV :=
  match P.underlying ty, x, mx with
  | some .string, .sc (.string s), none =>
    match boundD s.size s.size hi with
    | some h => match boundD 0 h lo with
      | some l => some (.sc (.string (s.extract l h)))
      | none => none
    | none => none
  | some (.slice e), .list own es l, none =>
    match boundD l.length l.length hi with
    | some h => match boundD 0 h lo with
      | some k => if es = sz P e ∧ sz P e ≠ 0 then some (.list (own && hi.isNone) es ((l.take h).drop k)) else none
      | none => none
    | none => none
  | some (.slice e), .list _ es l, some m =>
    match boundD 0 l.length (some m), hi with
    | some m, some hi => match boundD 0 m (some hi) with
      | some h => match boundD 0 h lo with
        | some k => if es = sz P e ∧ sz P e ≠ 0 then some (.list (decide (m = h)) es ((l.take h).drop k)) else none
        | none => none
      | none => none
    | _, _ => none
  | some (.slice e), .vec j es off n, none =>
    match boundD n n hi with
    | some h => match boundD 0 h lo with
      | some k => if es = sz P e ∧ sz P e ≠ 0 then some (.vec j es (off + k) (h - k)) else none
      | none => none
    | none => none
  | some (.slice e), .vec j es off n, some m =>
    match boundD 0 n (some m), hi with
    | some m, some hi => match boundD 0 m (some hi) with
      | some h => match boundD 0 h lo with
        | some k => if es = sz P e ∧ sz P e ≠ 0 then some (if m = k then .list true es [] else .vec j es (off + k) (h - k)) else none
        | none => none
      | none => none
    | _, _ => none
  | _, _, _ => none

def onlyIf (b : Bool) : DV → DV
  | .list own es l => .list (own && b) es l
  | d => d

/-- An element's place. -/
def indexAddrD (P : Program) (t : List DV) (ty : TypeId) (x : DV) (i : Int) : Option DV :=
  match P.underlying ty, x with
  | some (.slice e), .list _ es l => if 0 ≤ i ∧ es = sz P e ∧ sz P e ≠ 0 then match l[i.toNat]? with
      | some c => some (.eptr c)
      | none => none else none
  | some (.slice e), .vec j es off n => if 0 ≤ i ∧ i < n ∧ es = sz P e ∧ sz P e ≠ 0 then some (.rptr j ((off + i.toNat) * es)) else none
  | some (.array n e), x => if 0 ≤ i ∧ i < n ∧ sz P e ≠ 0 then moveD t (i.toNat * sz P e) x else none
  | _, _ => none

def buildD (offs : Nat → Option (Nat × Nat)) : List (Nat × DV) → List DV → Option (List DV)
  | [], cs => some cs
  | (i, d) :: rest, cs => match offs i with
    | some (off, k) => if (cellsD d.shed).length = k ∧ off + k ≤ cs.length ∧ (cellsD d.shed).all DV.cell = true then buildD offs rest (cs.take off ++ cellsD d.shed ++ cs.drop (off + k)) else none
    | none => none

def zeroD (P : Program) (ty : TypeId) : Option DV := match P.info? ty with
  | some i => i.zero.map (cst P ty)
  | none => none

/-- Looking for a key. -/
def eqKey (ks : List Nat) : DV → DV → Option Bool
  | .agg x, .agg y => eqs ks x y
  | .sc x, .sc y => eqV ks [x] [y]
  | _, _ => none
def keyOK (P : Program) (kt : TypeId) (k : DV) : Bool := match tinfo P kt, k with
  | some (true, n), .agg cs => match scs cs with
    | some xs => xs.length == n
    | none => false
  | some (false, _), .sc _ => true
  | _, _ => false
def findD (ks : List Nat) (k : DV) : List (DV × DV) → Option (Option DV)
  | [] => some none
  | e :: es => match eqKey ks k e.1 with
    | some true => some (some e.2)
    | some false => findD ks k es
    | none => none

/-- What a map holds. -/
def mapAt (h : DHeap) : DV → Option (List (DV × DV))
  | .sc (.map none) => some []
  | .mp i => match h[i]? with
    | some (.map es) => some es
    | _ => none
  | _ => none

/-- The numbers of a row of bytes. -/
def unbytes : List (List DV) → Option (List Int)
  | [] => some []
  | [.sc (.int .u8 n)] :: l => match unbytes l with
    | some r => some (n :: r)
    | none => none
  | _ => none

/-- The value of an operation that changes nothing but its own slot. -/
def calmV (P : Program) (o : Oper) (t : List DV) (h : DHeap) : Option DV :=
  match o.op with
  | .move x | .assign x => some (opnd P o.type t x).shed
  | .pick c a b => match opnd P o.type t c with
    | .sc (.bool c) => some (opnd P o.type t (if c then a else b)).shed
    | _ => none
  | .binOp op ty x y yt => binD P op ty x y (opnd P ty t x) (opnd P yt t y)
  | .unOp op ty x => match opnd P ty t x with
    | .sc v => (det P (Op.unary op v)).map DV.sc
    | _ => none
  | .convert src dst x => match P.underlying src, P.underlying dst, opnd P src t x with
    | some (.int k), some (.int k'), .sc (.int _ n) => (det P (Conv.intToInt k' n)).map DV.sc
    | some .string, some .string, .sc (.string s) => some (.sc (.string s))
    | some (.slice e), some .string, .list _ _ l => match P.underlying e, unbytes l with
      | some (.int .u8), some xs => some (.sc (.string (strOfNums xs)))
      | _, _ => none
    | _, _, _ => none
  | .extract x i => match opnd P o.type t x with
    | .tup cs => (cs[i]?).map DV.shed
    | _ => none
  | .field ty x f => match opnd P ty t x, fieldOff P ty f with
    | .agg cs, some (ft, off) => ofCells P ft (cs.drop off)
    | _, _ => none
  | .fieldAddr s x f => match fieldOff P s f with
    | some (_, off) => moveD t off (opnd P o.type t x)
    | none => none
  | .load ty a => match cellsAt t h (opnd P o.type t a) with
    | some cs => ofCells P ty cs
    | none => none
  | .indexAddr ty x i => match intD (opnd P o.type t i) with
    | some i => indexAddrD P t ty (opnd P ty t x) i
    | none => none
  | .index ty x i => match P.underlying ty, opnd P ty t x, intD (opnd P o.type t i) with
    | some .string, .sc (.string s), some i => if 0 ≤ i then (s[i.toNat]?).map fun b => .sc (.int .u8 b.toNat) else none
    | some (.array n e), .agg cs, some i => if 0 ≤ i ∧ i < n ∧ sz P e ≠ 0 then ofCells P e (cs.drop (i.toNat * sz P e)) else none
    | _, _, _ => none
  | .slice ty x lo hi mx => (sliceD P ty (opnd P ty t x) (lo.map (opnd P o.type t)) (hi.map (opnd P o.type t)) (mx.map (opnd P o.type t))).map (onlyIf mx.isSome)
  | .nilCheck x => moveD t 0 (opnd P o.type t x)
  | .build ty ps => match zeroD P ty, P.underlying ty with
    | some (.agg z), some (.struct fs) => if fs.toList.all (fun f => (P.info? f.type).isSome) = false then none else (buildD (fun i => (fs[i]?).map fun f => (f.offset, sz P f.type))
        (ps.toList.map fun p => (p.1, opnd P (match fs[p.1]? with | some f => f.type | none => 0) t p.2)) (z.map DV.shed)).map DV.agg
    | some (.agg z), some (.array _ e) => if (P.info? e).isSome = false then none else (buildD (fun i => some (i * sz P e, sz P e)) (ps.toList.map fun p => (p.1, opnd P e t p.2)) (z.map DV.shed)).map DV.agg
    | _, _ => none
  | .buildSlice ty n ps => match elemOfSlice P ty with
    | some e => if ps.toList.map (·.1) = List.range n ∧ 0 < sz P e ∧ n * sz P e ≤ 65536 ∧ (zeroD P e).isSome = true then
        if (ps.toList.map fun p => cellsD (opnd P e t p.2).shed).all (fun r => r.length == sz P e && r.all DV.cell) then some (.list true (sz P e) (ps.toList.map fun p => cellsD (opnd P e t p.2).shed)) else none
      else none
    | none => none
  | .makeInterface ty x => match P.underlying ty with
    | some (.interface _) | none => none
    | _ => if (opnd P ty t x).shed.plain then some (.iface ty (opnd P ty t x).shed) else none
  | .lookup ty m k ok => match P.underlying ty with
    | some (.map kt et) => match flatK P 8 kt, keyOK P kt (opnd P kt t k), mapAt h (opnd P ty t m), zeroD P et with
      | some ks, true, some es, some z => match findD ks (opnd P kt t k) es with
        | some r => if ok then some (.tup [(r.getD z).shed, .sc (.bool r.isSome)]) else some (r.getD z).shed
        | none => none
      | _, _, _, _ => none
    | _ => none
  | .call { callee := .builtin .len, args, argTypes } => match args[0]?, argTypes[0]?, args.size with
    | some x, some ty, 1 => match lenD P ty h (opnd P ty t x) with
      | some n => some (.sc (.int .i64 (Int.ofNat n)))
      | none => none
    | _, _, _ => none
  | .call { callee := .builtin .max, args, argTypes } => match args[0]?, args[1]?, args.size with
    | some x, some y, 2 => mmD true (opnd P 0 t x) (opnd P 0 t y)
    | _, _, _ => none
  | .call { callee := .builtin .min, args, argTypes } => match args[0]?, args[1]?, args.size with
    | some x, some y, 2 => mmD false (opnd P 0 t x) (opnd P 0 t y)
    | _, _, _ => none
  | _ => none

/-- The other operations. -/
def putD (t : List DV) (dst : Option Tmp) (x : DV) : List DV := match dst with | some s => t.set s x | none => t

def killPath (s : Nat) (t : List DV) : List DV := t.map fun
  | .path s' off => if s' = s then .junk else .path s' off
  | d => d

def newVar (C : Cfg) (f : FuncId) (dst : Option Tmp) (t : List DV) (h : DHeap) (cs : List DV) : Option (List DV × DHeap) :=
  if cs.all DV.cell then
    match dst with
    | some s => if C.esc f s then some (t.set s (.ptr h.length 0), h ++ [.cells cs]) else some ((killPath s t).set s (.box cs), h)
    | none => none
  else none

/-- A value is taken out of an operand, its right to append with it, where it is a list. -/
def takeD (P : Program) (ty : TypeId) (t : List DV) (x : Operand) : DV × List DV :=
  match x, opnd P ty t x with
  | .tmp s, d => if (own1 d).isSome = true then (d, t.set s d.shed) else (d.shed, t)
  | .const _, d => (d, t)
  | _, d => (d.shed, t)

def storeD (t : List DV) (h : DHeap) (p : DV) (new : List DV) : Option (List DV × DHeap) :=
  if new.all DV.cell then
    match p with
    | .path s off => match t[s]? with
      | some (.box cs) => if off + new.length ≤ cs.length then some (t.set s (.box (cs.take off ++ new ++ cs.drop (off + new.length))), h) else none
      | _ => none
    | .ptr i off => match h[i]? with
      | some (.cells cs) => if off + new.length ≤ cs.length then some (t, h.set i (.cells (cs.take off ++ new ++ cs.drop (off + new.length)))) else none
      | _ => none
    | .rptr i off => match h[i]? with
      | some (.row cs) => if off + new.length ≤ cs.length then some (t, h.set i (.row (cs.take off ++ new.map DV.shed ++ cs.drop (off + new.length)))) else none
      | _ => none
    | _ => none
  else none

def maxLenD : Nat := 137438953472

/-- Cells, cut into rows. -/
def chunk (es : Nat) : Nat → List DV → List (List DV)
  | 0, _ => []
  | n + 1, cs => cs.take es :: chunk es n (cs.drop es)
/-- What append's second operand holds. -/
def rowsD (P : Program) (e : TypeId) (h : DHeap) : DV → Option (List (List DV))
  | .list _ es l => if es = sz P e then some l else none
  | .sc (.string s) => if sz P e = 1 then some (bytesD s) else none
  | .sc (.slice none 0 0) => some []
  | .vec i es off n => match h[i]? with
    | some (.row cs) => if es = sz P e ∧ (off + n) * es ≤ cs.length then some (chunk es n (cs.drop (off * es))) else none
    | _ => none
  | _ => none

def zeroFits (i : TypeInfo) : Bool := match i.zero with
  | some z => z.cells.size == i.size
  | none => false

def appendD (P : Program) (ty : TypeId) (h : DHeap) (a b : DV) : Option DV :=
  match elemOfSlice P ty, a with
  | some e, .list true es l => match rowsD P e h b, P.info? e with
    | some m, some i => if es = i.size ∧ 0 < i.size ∧ zeroFits i = true ∧ (l.length + m.length) * (i.bytes + i.size + 1) ≤ maxLenD then some (.list true es (l ++ m)) else none
    | _, _ => none
  | _, _ => none

/-- append to a row that is written in place: what was told of it is dead then. -/
def appendV (P : Program) (ty : TypeId) (h : DHeap) (a b : DV) : Option (DV × DHeap) :=
  match elemOfSlice P ty with
  | some e => match rowsD P e h b, P.info? e with
    | some m, some i => if 0 < i.size ∧ zeroFits i = true then match a with
        | .sc (.slice none 0 0) => if m.length * (i.bytes + i.size + 1) ≤ maxLenD then if m.isEmpty = true then some (.sc (.slice none 0 0), h) else some (.vec h.length i.size 0 m.length, h ++ [.row (m.flatten.map DV.shed)]) else none
        | .vec j es 0 n => match h[j]? with
          | some (.row cs) => if es = i.size ∧ n * es ≤ cs.length ∧ (n + m.length) * (i.bytes + i.size + 1) ≤ maxLenD then some (.vec h.length es 0 (n + m.length), h.set j .dead ++ [.row (cs.take (n * es) ++ m.flatten.map DV.shed)]) else none
          | _ => none
        | _ => none
      else none
    | _, _ => none
  | none => none
/-- make. -/
def makeV (P : Program) (ty : TypeId) (h : DHeap) (l c : DV) : Option (DV × DHeap) :=
  match elemOfSlice P ty with
  | some e => match zeroD P e, P.info? e, intD l, intD c with
    | some z, some i, some n, some m => if 0 < i.size ∧ zeroFits i = true ∧ n = m ∧ 0 ≤ n ∧ n.toNat * (i.bytes + i.size + 1) ≤ maxLenD ∧ (cellsD z.shed).length = i.size ∧ (cellsD z.shed).all DV.cell = true then
        some (.vec h.length i.size 0 n.toNat, h ++ [.row (List.replicate n.toNat (cellsD z.shed)).flatten]) else none
    | _, _, _, _ => none
  | none => none
/-- A slice of what is told, to be written in place. -/
def buildV (P : Program) (t : List DV) (h : DHeap) (ty : TypeId) (n : Nat) (ps : Array (Nat × Operand)) : Option (DV × DHeap) := match elemOfSlice P ty with
  | some e => if ps.toList.map (·.1) = List.range n ∧ 0 < sz P e ∧ n * sz P e ≤ 65536 ∧ (zeroD P e).isSome = true then
      if (ps.toList.map fun p => cellsD (opnd P e t p.2).shed).all (fun r => r.length == sz P e && r.all DV.cell) then some (.vec h.length (sz P e) 0 n, h ++ [.row ((ps.toList.map fun p => cellsD (opnd P e t p.2).shed).flatten.map DV.shed)]) else none
    else none
  | none => none

def setKey (ks : List Nat) (k : DV) (v : DV) : List (DV × DV) → Option (List (DV × DV))
  | [] => some [(k, v)]
  | e :: es => match eqKey ks k e.1 with
    | some true => some ((k, v) :: es)
    | some false => (setKey ks k v es).map fun r => e :: r
    | none => none

def delKey (ks : List Nat) (k : DV) : List (DV × DV) → Option (List (DV × DV))
  | [] => some []
  | e :: es => match eqKey ks k e.1 with
    | some true => some es
    | some false => (delKey ks k es).map fun r => e :: r
    | none => none

/-- Captured variables: they are not written any more. -/
def capture (P : Program) (t : List DV) : List Operand → Option (List DV × List DV)
  | [] => some ([], t)
  | x :: xs => match x with
    | .tmp s => match t[s]? with
      | some (.box cs) => if cs.all DV.cell then match capture P (t.set s (.eptr (cs.map DV.shed))) xs with
        | some (ds, t') => some (.eptr (cs.map DV.shed) :: ds, t')
        | none => none else none
      | some d => if d.plain then match capture P t xs with
        | some (ds, t') => some (d.shed :: ds, t')
        | none => none else none
      | none => none
    | _ => none

def heapFree : DV → Bool
  | .sc _ | .junk => true
  | .list _ _ l => alls l
  | .eptr cs | .agg cs | .tup cs => all cs
  | .fn _ a b => all a && all b
  | .iface _ d => heapFree d
  | _ => false
where
  all : List DV → Bool
    | [] => true
    | d :: ds => heapFree d && all ds
  alls : List (List DV) → Bool
    | [] => true
    | r :: l => all r && alls l

/-- Does a value speak of the first n objects alone? -/
def below (n : Nat) : DV → Bool
  | .sc _ | .junk => true
  | .ptr i _ => decide (i < n)
  | .vec i _ _ _ => decide (i < n)
  | .rptr i _ => decide (i < n)
  | .mp i => decide (i < n)
  | .list _ _ l => alls l
  | .eptr cs | .agg cs | .tup cs => all cs
  | .fn _ a b => all a && all b
  | .iface _ d => below n d
  | _ => false
where
  all : List DV → Bool
    | [] => true
    | d :: ds => below n d && all ds
  alls : List (List DV) → Bool
    | [] => true
    | r :: l => all r && alls l
def belowO (n : Nat) : DObj → Bool
  | .cells cs => cs.all (below n)
  | .map es => es.all fun e => below n e.1 && below n e.2
  | .row cs => cs.all (below n)
  | .dead => true
/-- What was made in the heap behind its first n objects is forgotten. -/
def trim (n : Nat) (r : DV) (h : DHeap) : Option (DV × DHeap) := if (below n r && (h.take n).all (belowO n)) = true ∧ n ≤ h.length then some (r, h.take n) else none

/-- The arguments of a call. raw: a nil slice that stands there is told as it is (to functions that are told by a proof of their own). -/
def rawNil : Operand → Bool
  | .const (.slice none 0 0) => true
  | _ => false
def argD (P : Program) (raw : Bool) (t : List DV) (ty : TypeId) (x : Operand) : DV := if (raw && rawNil x) = true then .sc (.slice none 0 0) else (opnd P ty t x).shed
def argsD (P : Program) (raw : Bool) (t : List DV) : List Operand → List TypeId → List DV
  | x :: xs, ty :: tys => argD P raw t ty x :: argsD P raw t xs tys
  | x :: xs, [] => argD P raw t 0 x :: argsD P raw t xs []
  | [], _ => []

def xfers (C : Cfg) (f : FuncId) : Option Tmp → Bool
  | some s => C.xfer f s
  | none => false
def oneCellTy (P : Program) (ty : TypeId) : Bool := match tinfo P ty with
  | some (b, _) => !b
  | none => false
def ownHead : List DV → Option (Nat × List (List DV))
  | .list true es l :: _ => some (es, l)
  | _ => none

/-- A function with a text of its own. -/
def calleeOK (P : Program) (k : FuncId) : Bool := match P.funcs[k]? with
  | some fn => fn.body.isSome && !(fn.name == "runtime.NumGoroutine")
  | none => false

/-- The first of a tuple, its right to append with it, where it is a list. -/
def hd1 : DV → DV
  | .list o es l => .list o es l
  | .box _ => .junk
  | d => d.shed
theorem hd1_noBox (y : DV) : (hd1 y).isBox = false := by
  cases y <;> try rfl
  rename_i cs
  obtain ⟨ds, e⟩ := shed_tup_or cs
  show (DV.tup cs).shed.isBox = false
  rw [e]; rfl
def headD (i : Nat) (dst : Option Tmp) (h : DHeap) : DV × List DV → Option (List DV × DHeap)
  | (.tup (y :: _), t') => if i = 0 then some (putD t' dst (hd1 y), h) else none
  | _ => none

/-- Cells that are told as they are, among the others. -/
def mixZ (offs : List Nat) : Nat → List DV → List Value → List DV
  | i, d :: ds, v :: vs => (if offs.contains i then .sc v else d.shed) :: mixZ offs (i + 1) ds vs
  | _, _, _ => []
/-- A struct's zero value, some cells as they are. -/
def zeroR (P : Program) (offs : List Nat) (ty : TypeId) : Option (List DV) := match P.info? ty with
  | some i => match i.zero with
    | some (.agg vs) => match cst P ty (.agg vs) with
      | .agg ds => some (mixZ offs 0 ds vs.toList)
      | _ => none
    | _ => none
  | none => none
def fty (fs : Array Field) (i : Nat) : TypeId := match fs[i]? with
  | some f => f.type
  | none => 0
/-- A struct whose fields that are not named are told as they are. -/
def buildR (P : Program) (offs : List Nat) (t : List DV) (ty : TypeId) (ps : Array (Nat × Operand)) : Option DV := match zeroR P offs ty, P.underlying ty with
  | some z, some (.struct fs) => if fs.toList.all (fun f => (P.info? f.type).isSome) = false then none else (buildD (fun i => (fs[i]?).map fun f => (f.offset, sz P f.type))
      (ps.toList.map fun p => (p.1, opnd P (fty fs p.1) t p.2)) z).map DV.agg
  | _, _ => none
def rawO (C : Cfg) (f : FuncId) : Option Tmp → List Nat
  | some s => C.raw f s
  | none => []
def raws (C : Cfg) (f : FuncId) (dst : Option Tmp) : Bool := !(rawO C f dst).isEmpty
def escs (C : Cfg) (f : FuncId) : Option Tmp → Bool
  | some s => C.esc f s
  | none => false
/-- One operation of a region. call: what calls come to. -/
def opD (P : Program) (C : Cfg) (f : FuncId) (call : FuncId → List DV → DHeap → Option (DV × DHeap)) (o : Oper) (t : List DV) (h : DHeap) : Option (List DV × DHeap) :=
  match o.op with
  | .box ty x => newVar C f o.dst t h (cellsD (opnd P ty t x).shed)
  | .alloc ty => if (raws C f o.dst && escs C f o.dst) = true then (match zeroR P (rawO C f o.dst) ty with
    | some z => newVar C f o.dst t h z
    | none => none) else (match zeroD P ty with
    | some z => newVar C f o.dst t h (zcells (raws C f o.dst) z)
    | none => none)
  | .store ty a x => match takeD P ty t x with
    | (d, t') => match tinfo P ty with
      | some (_, n) => if (cellsD d).length = n then (match storeD t' h (opnd P o.type t a) (cellsD d) with | some (t'', h') => some (putD t'' o.dst .junk, h') | none => none) else none
      | none => none
  | .call { callee := .builtin .append, args, argTypes } => match args[0]?, args[1]?, argTypes[0]?, argTypes[1]?, args.size with
    | some x, some y, some ty, some ty', 2 => match P.underlying ty' with
      | some (.int _) | none => none
      | some _ => if raws C f o.dst = true then (match o.dst, appendV P ty h (opnd P ty t x) (opnd P ty' t y) with
        | some s, some (r, h') => some (t.set s r, h')
        | _, _ => none) else (match takeD P ty t x, o.dst with
        | (a, t'), some s => match appendD P ty h a (opnd P ty' t y) with
          | some r => some (t'.set s r, h)
          | none => none
        | _, none => none)
    | _, _, _, _, _ => none
  | .call { callee := .builtin .delete, args, argTypes } => match args[0]?, args[1]?, argTypes[0]?, args.size with
    | some m, some k, some ty, 2 => match P.underlying ty, opnd P ty t m with
      | some (.map kt _), .mp i => match flatK P 8 kt, keyOK P kt (opnd P kt t k), h[i]? with
        | some ks, true, some (.map es) => match delKey ks (opnd P kt t k) es with
          | some es' => some (putD t o.dst .junk, h.set i (.map es'))
          | none => none
        | _, _, _ => none
      | _, _ => none
    | _, _, _, _ => none
  | .call { callee := .value fv, args, argTypes } => match opnd P 0 t fv with
    | .fn (.func k) first cap => if calleeOK P k = true ∧ (argsD P (C.ext k).isSome t args.toList argTypes.toList).all DV.plain = true then
        match call k (first ++ argsD P (C.ext k).isSome t args.toList argTypes.toList ++ cap) h with
        | some (r, h') => some (putD t o.dst r, h')
        | none => none
      else none
    | _ => none
  | .makeMap ty r => match P.underlying ty, r with
    | some (.map _ _), none => some (putD t o.dst (.mp h.length), h ++ [.map []])
    | _, _ => none
  | .mapUpdate ty m k v | .insert ty m k v => match P.underlying ty, opnd P ty t m with
    | some (.map kt et), .mp i => match flatK P 8 kt, keyOK P kt (opnd P kt t k), h[i]? with
      | some ks, true, some (.map es) => if (opnd P et t v).shed.plain then match setKey ks (opnd P kt t k) (opnd P et t v).shed es with
          | some es' => some (putD t o.dst .junk, h.set i (.map es'))
          | none => none else none
      | _, _, _ => none
    | _, _ => none
  | .makeFunc fn first cap => match capture P t (first.toList ++ cap.toList) with
    | some (ds, t') => some (putD t' o.dst (.fn fn (ds.take first.size) (ds.drop first.size)), h)
    | none => none
  | .makeSlice ty l c => match makeV P ty h (opnd P o.type t l) (opnd P o.type t c) with
    | some (r, h') => some (putD t o.dst r, h')
    | none => none
  | .buildSlice ty n ps => if raws C f o.dst = true then (match buildV P t h ty n ps with
    | some (r, h') => some (putD t o.dst r, h')
    | none => none) else (match calmV P o t h with
    | some x => some (putD t o.dst x, h)
    | none => none)
  | .move x => if raws C f o.dst && rawNil x then some (putD t o.dst (.sc (.slice none 0 0)), h) else if xfers C f o.dst = true then (match takeD P o.type t x with | (d, t') => some (putD t' o.dst d, h)) else some (putD t o.dst (opnd P o.type t x).shed, h)
  | .assign x => if raws C f o.dst && rawNil x then some (putD t o.dst (.sc (.slice none 0 0)), h) else if xfers C f o.dst = true then some (putD t o.dst (opnd P o.type t x).shed, h) else (match takeD P o.type t x with | (d, t') => some (putD t' o.dst d, h))
  | .extract x i => if xfers C f o.dst = true then headD i o.dst h (takeD P o.type t x) else (match calmV P o t h with
    | some x => some (putD t o.dst x, h)
    | none => none)
  | .build ty ps => if raws C f o.dst = true then (match buildR P (rawO C f o.dst) t ty ps with
    | some x => some (putD t o.dst x, h)
    | none => none) else (match calmV P o t h with
    | some x => some (putD t o.dst x, h)
    | none => none)
  | .load ty a => match cellsAt t h (opnd P o.type t a) with
    | some cs => if xfers C f o.dst = true ∧ oneCellTy P ty = true ∧ (ownHead cs).isSome = true then match ownHead cs with
        | some (es, l) => match storeD t h (opnd P o.type t a) [.list false es l] with
          | some (t', h') => some (putD t' o.dst (.list true es l), h')
          | none => none
        | none => none
      else match ofCellsR P (raws C f o.dst) ty cs with
        | some x => if (xfers C f o.dst || raws C f o.dst) = true ∧ x.isBox = true then none else some (putD t o.dst x, h)
        | none => none
    | none => none
  | _ => match calmV P o t h with
    | some x => some (putD t o.dst x, h)
    | none => none

/-- Does an operation run? -/
def wantedD (ops : Array Oper) (o : Oper) (t : List DV) : Option Bool :=
  match o.guard with
  | none => some true
  | some (j, want) => match (ops[j]?).bind (·.dst) with
    | some s => match t[s]? with
      | some (.sc (.bool b)) => some (b == want)
      | some (.sc (.tuple _)) => some false
      | _ => none
    | none => none

def opsD (P : Program) (C : Cfg) (f : FuncId) (call : FuncId → List DV → DHeap → Option (DV × DHeap)) (ops : Array Oper) : List Oper → List DV → DHeap → Option (List DV × DHeap)
  | [], t, h => some (t, h)
  | o :: rest, t, h => match wantedD ops o t with
    | some true => match opD P C f call o t h with
      | some (t', h') => opsD P C f call ops rest t' h'
      | none => none
    | some false => opsD P C f call ops rest (putD t o.dst (.sc undef)) h
    | none => none

/-- How a piece of code ends. -/
inductive XD where
  | normal
  | exit (id : Nat)
  | ret

/-- Slots that nothing looks at any more are forgotten. -/
def keepFrom (ks : List Tmp) : Nat → List DV → List DV
  | _, [] => []
  | i, x :: t => (if ks.contains i then x else .junk) :: keepFrom ks (i + 1) t
def keepD (C : Cfg) (f : FuncId) (id : Nat) (t : List DV) : List DV := match C.keep f id with
  | some ks => keepFrom ks 0 t
  | none => t

/-- A loop's name: its first region. -/
def fstReg : Code → Nat
  | .region id _ _ => id
  | .seq a _ => fstReg a
  | .block _ c => fstReg c
  | .scope c => fstReg c
  | _ => 0
def loopKey (c : Code) : Nat := fstReg c + 100000

def iterD (body : List DV → DHeap → Option (XD × List DV × DHeap)) : Nat → List DV → DHeap → Option (XD × List DV × DHeap)
  | 0, _, _ => none
  | n + 1, t, h => match body t h with
    | some (.normal, t', h') => iterD body n t' h'
    | some (.exit j, t', h') => some (.exit j, t', h')
    | some (.ret, t', h') => some (.ret, t', h')
    | none => none

def codeD (P : Program) (C : Cfg) (f : FuncId) (call : FuncId → List DV → DHeap → Option (DV × DHeap)) (region : Array Oper → Bool → List DV → DHeap → Option (List DV × DHeap)) (n : Nat) : Code → List DV → DHeap → Option (XD × List DV × DHeap)
  | .skip, t, h => some (.normal, t, h)
  | .label _, t, h => some (.normal, t, h)
  | .ret, t, h => some (.ret, t, h)
  | .exit j, t, h => some (.exit j, t, h)
  | .region id ops draw, t, h => match region ops draw t h with
    | some (t', h') => some (.normal, keepD C f id t', h')
    | none => none
  | .seq a b, t, h => match codeD P C f call region n a t h with
    | some (.normal, t', h') => codeD P C f call region n b t' h'
    | some (.exit j, t', h') => some (.exit j, t', h')
    | some (.ret, t', h') => some (.ret, t', h')
    | none => none
  | .cond c a b, t, h => match opnd P 0 t c with
    | .sc (.bool true) => codeD P C f call region n a t h
    | .sc (.bool false) => codeD P C f call region n b t h
    | _ => none
  | .block id c, t, h => match codeD P C f call region n c t h with
    | some (.exit j, t', h') => if j = id then some (.normal, t', h') else some (.exit j, t', h')
    | r => r
  | .scope c, t, h => codeD P C f call region n c t h
  | .loop c, t, h => iterD (fun t h => codeD P C f call region n c (keepD C f (loopKey c) t) h) n t h
  | _, _, _ => none

def retOne (P : Program) (t : List DV) (h : DHeap) : ResultVar → Option DV
  | .tmp s => match t[s]? with
    | some x => if x.plain then some x else none
    | none => none
  | .cell s ty => match cellsAt t h (opnd P 0 t (.tmp s)) with
    | some cs => ofCells P ty cs
    | none => none
def retAll (P : Program) (t : List DV) (h : DHeap) : List ResultVar → Option (List DV)
  | [] => some []
  | r :: rs => match retOne P t h r, retAll P t h rs with
    | some x, some xs => some (x :: xs)
    | _, _ => none
/-- Results together: the first one keeps its right to append. -/
def shedRest : List DV → List DV
  | [] => []
  | x :: xs => x :: xs.map DV.shed
def retD (P : Program) (t : List DV) (h : DHeap) (rs : List ResultVar) : Option DV := match retAll P t h rs with
  | some [x] => some x
  | some xs => some (.tup (shedRest xs))
  | none => none

end Go.DS

/-
  Operands, cells, loads: the clean ones stand for the model's.
-/
namespace Go.DS
open Go
set_option linter.unusedVariables false

/-- A clean value that may be a place in a variable of the frame. -/
def RelP (g : Gh) (t : List DV) (tmps : Array Value) : DV → Value → Prop
  | .box _, _ => False
  | .path s off, v => ∀ cs, t[s]? = some (.box cs) → ∃ b, v = .pointer (some ⟨b, off, none⟩) ∧ tmps[s]? = some (.pointer (some ⟨b, 0, none⟩))
  | x, v => RelV g x v

theorem RelP.of_plain {g : Gh} {t : List DV} {tmps : Array Value} {x : DV} {v : Value} (hx : x.plain = true) : RelP g t tmps x v ↔ RelV g x v := by
  cases x <;> simp [RelP, DV.plain, DV.isBox, DV.isPath] at *

theorem RelV.relP {g : Gh} {t : List DV} {tmps : Array Value} {x : DV} {v : Value} (h : RelV g x v) : RelP g t tmps x v := by
  cases h <;> simp only [RelP] <;> constructor <;> assumption

theorem RelP.notBox {g : Gh} {t : List DV} {tmps : Array Value} {x : DV} {v : Value} (h : RelP g t tmps x v) : x.isBox = false := by
  cases x <;> simp [RelP, DV.isBox] at *

theorem RelP.shed {g : Gh} {t : List DV} {tmps : Array Value} {x : DV} {v : Value} (h : RelP g t tmps x v) : RelP g t tmps x.shed v := by
  cases x <;> try (simp only [DV.shed, RelP] at * <;> first | exact h | exact RelV.shed h)
  rename_i cs
  have h1 : RelV g (.tup cs) v := h
  obtain ⟨ds, e⟩ := shed_tup_or cs
  have h2 := h1.shed
  rw [e] at h2 ⊢
  exact h2

theorem RelP.mono {g g' : Gh} (hg : Gh.Le g g') {t : List DV} {tmps : Array Value} {x : DV} {v : Value} (h : RelP g t tmps x v) : RelP g' t tmps x v := by
  cases x <;> simp only [RelP] at * <;> first | exact h | exact RelV.mono hg h

theorem shed_isBox (x : DV) : x.shed.isBox = x.isBox := by
  cases x <;> try rfl
  rename_i cs
  obtain ⟨ds, e⟩ := shed_tup_or cs
  rw [e]; rfl
theorem shed_plain (x : DV) : x.shed.plain = x.plain := by
  cases x <;> try rfl
  rename_i cs
  obtain ⟨ds, e⟩ := shed_tup_or cs
  rw [e]; rfl

theorem c1_rel (g : Gh) (P : Program) (ty : TypeId) (v : Value) : RelV g (c1 P ty v) v := by
  unfold c1
  split
  · exact .empty
  · rename_i f fs cs
    split
    · rename_i h
      simp only [Bool.and_eq_true, Array.isEmpty_iff] at h
      obtain ⟨rfl, rfl⟩ := h
      exact .fn (gs := []) (ds := []) rfl (fun _ _ _ h => by simp at h) rfl (fun _ _ _ h => by simp at h)
    · exact .sc _
  · exact .sc v

theorem cz_rel (g : Gh) (P : Program) : ∀ (ts : List TypeId) (vs : List Value), RelL g (cz P ts vs) vs
  | t :: ts, v :: vs => .cons (c1_rel g P t v) (cz_rel g P ts vs)
  | [], v :: vs => .cons (.sc v) (cz_rel g P [] vs)
  | [], [] => .nil g
  | _ :: _, [] => .nil g

theorem cst_rel (g : Gh) (P : Program) (ty : TypeId) (v : Value) : RelV g (cst P ty v) v := by
  unfold cst
  split
  · rename_i vs
    have h := cz_rel g P (leaves P 8 ty) vs.toList
    have := RelV.agg h.len h.at_
    simpa using this
  · exact c1_rel g P ty v

theorem getD_of_get {tmps : Array Value} {s : Nat} {v d : Value} (h : tmps[s]? = some v) : tmps.getD s d = v := by
  simp [h]

theorem opnd_rel {P : Program} {g : Gh} {w : World} {d : Nat} {t : List DV} {a : Act} (hT : RelT g w d t a.tmps) (ty : TypeId) (x : Operand) :
    RelP g t a.tmps (opnd P ty t x) (a.eval x) := by
  cases x with
  | const v => exact (cst_rel g P ty v).relP
  | global i => exact (RelV.sc _).relP
  | func f => exact (RelV.fn (gs := []) (ds := []) rfl (fun _ _ _ h => by simp at h) rfl (fun _ _ _ h => by simp at h)).relP
  | tmp s =>
    cases hs : t[s]? with
    | none => simp only [opnd, hs]; exact (RelV.junk _).relP
    | some y =>
      obtain ⟨v, hv, hr⟩ := hT.get hs
      have he : a.eval (.tmp s) = v := by simp only [Act.eval]; exact getD_of_get hv
      rw [he]
      by_cases hp : y.plain = true
      · rw [RelS.plain_iff hp] at hr
        cases y <;> simp [DV.plain, DV.isBox, DV.isPath] at hp <;> (simp only [opnd, hs]; exact hr.1.relP)
      · cases y <;> simp [DV.plain, DV.isBox, DV.isPath] at hp <;> simp only [opnd, hs]
        · rename_i cs
          obtain ⟨b, rfl, _⟩ := hr
          intro cs' hcs'
          exact ⟨b, rfl, hv⟩
        · exact hr

/-- Cells that can be read at a place. -/
def CellsIn (w : World) (b off : Nat) (vs : List Value) : Prop := ∀ k v, vs[k]? = some v → w.cell? ⟨b, off + k, none⟩ = some v

theorem CellsIn.drop {w : World} {b off : Nat} {vs : List Value} (h : CellsIn w b off vs) (n : Nat) : CellsIn w b (off + n) (vs.drop n) := fun k v hv => by
  rw [List.getElem?_drop] at hv
  rw [Nat.add_assoc]; exact h _ _ hv

theorem CellsIn.take {w : World} {b off : Nat} {vs : List Value} (h : CellsIn w b off vs) (n : Nat) : CellsIn w b off (vs.take n) := fun k v hv => by
  rw [List.getElem?_take] at hv
  split at hv
  · exact h _ _ hv
  · cases hv

theorem cellsIn_row {w : World} {b : Nat} {vs : Array Value} {et : TypeId} {fr : Nat × Nat} (h : w.heap[b]? = some (.cells vs et fr)) : CellsIn w b 0 vs.toList := fun k v hv => by
  simp only [Nat.zero_add, World.cell?, h]
  simpa using hv

theorem cellsAt_rel {g : Gh} {w : World} {d : Nat} {t : List DV} {tmps : Array Value} {h : DHeap} (hT : RelT g w d t tmps) (hW : WInv g h w) {p : DV} {v : Value} {cs : List DV}
    (hp : RelP g t tmps p v) (hc : cellsAt t h p = some cs) : ∃ b off vs, v = .pointer (some ⟨b, off, none⟩) ∧ RelL g cs vs ∧ CellsIn w b off vs := by
  cases p <;> simp only [cellsAt] at hc <;> try (cases hc)
  · rename_i i off
    split at hc
    · rename_i cs' hcs
      cases hc
      obtain ⟨vs, et, h1, h2, h3, h4, h5⟩ := hW.obj i _ hcs
      cases hp
      exact ⟨g.η i, off, vs.toList.drop off, rfl, h4.drop off, by simpa using (cellsIn_row h1).drop off⟩
    · cases hc
  · rename_i s off
    split at hc
    · rename_i cs' hcs
      cases hc
      obtain ⟨u, hu, hr⟩ := hT.get hcs
      obtain ⟨b, rfl, vs, et, h1, h2, h3, h4, h5⟩ := hr
      obtain ⟨b', rfl, hb'⟩ := hp _ hcs
      rw [hu] at hb'
      cases hb'
      exact ⟨b, off, vs.toList.drop off, rfl, h4.drop off, by simpa using (cellsIn_row h1).drop off⟩
    · cases hc
  · cases hp with
    | eptr h1 h2 h3 =>
      rename_i vs b off
      exact ⟨b, off, vs, rfl, ⟨h1, h2⟩, fun k v hv => hW.pc _ _ _ (h3 k v hv)⟩
  · rename_i i off
    split at hc
    · rename_i cs' hcs
      cases hc
      obtain ⟨vs, et, h1, h2, h3, h4, h5, h6⟩ := hW.obj i _ hcs
      cases hp
      exact ⟨g.η i, off, (vs.toList.take cs'.length).drop off, rfl, h4.drop off, by simpa using ((cellsIn_row h1).take cs'.length).drop off⟩
    · cases hc

theorem add_spot (b off j : Nat) : (⟨b, off, none⟩ : Addr).add j = ⟨b, off + j, none⟩ := by unfold Addr.add; split <;> simp_all

theorem tinfo_spec {P : Program} {ty : TypeId} {q : Bool} {n : Nat} (h : tinfo P ty = some (q, n)) : ∃ i d, P.info? ty = some i ∧ i.size = n ∧ P.underlying ty = some d ∧ aggD d = q := by
  unfold tinfo at h
  split at h
  · rename_i i d h1 h2
    simp at h
    exact ⟨i, d, h1, h.2, h2, h.1⟩
  · cases h

theorem run_isAgg {P : Program} {ty : TypeId} {d : TypeDesc} (hu : P.underlying ty = some d) (w : World) : (isAgg ty).run P w = .ok (aggD d) w := by
  unfold isAgg
  rw [Sem.run_bind, run_underlying hu w]
  cases d <;> simp [aggD]

theorem run_loadVar_cells {P : Program} {w : World} {b off : Nat} {vs : List Value} {ty : TypeId} {n : Nat} (hi : tinfo P ty = some (true, n)) (hn : n ≤ vs.length) (hc : CellsIn w b off vs) :
    (loadVar ty ⟨b, off, none⟩).run P w = .ok (.agg (vs.take n).toArray) w := by
  obtain ⟨i, d, h1, h2, h3, h4⟩ := tinfo_spec hi
  have hl : (loadCells ⟨b, off, none⟩ (vs.take n).length).run P w = .ok (vs.take n).toArray w :=
    run_loadCells_list (P := P) w ⟨b, off, none⟩ (vs.take n) (fun j v hv => by rw [add_spot]; exact hc.take n _ _ hv)
  have hlen : (vs.take n).length = n := by simp; omega
  rw [hlen] at hl
  simp [loadVar, Sem.run_bind, run_isAgg h3, h4, sizeOf, typeInfo, h1, h2, hl]

theorem run_loadVar_one {P : Program} {w : World} {b off : Nat} {v : Value} {ty : TypeId} {n : Nat} (hi : tinfo P ty = some (false, n)) (hc : w.cell? ⟨b, off, none⟩ = some v) :
    (loadVar ty ⟨b, off, none⟩).run P w = .ok v w := by
  obtain ⟨i, d, h1, h2, h3, h4⟩ := tinfo_spec hi
  simp [loadVar, Sem.run_bind, run_isAgg h3, h4, hc]

theorem unraw_rel {g : Gh} {d : DV} {v : Value} (k : Nat) (h : RelV g d v) : RelV g (unraw k d.shed) v ∧ ∀ (w : World) (p : Kind), OwnAt g w p (unraw k d.shed) v := by
  unfold unraw
  split
  · rename_i e
    have hv : v = .slice none 0 0 := by
      have := h.shed
      rw [e] at this
      cases this; rfl
    subst hv
    split
    · exact ⟨.empty, fun w p => .mk_list fun hlt => by simp at hlt⟩
    · exact ⟨.sc _, fun w p => .none rfl⟩
  · exact ⟨h.shed, fun w p => .shed⟩
theorem ofCells_rel {P : Program} {g : Gh} {w : World} {ty : TypeId} {cs : List DV} {x : DV} (hx : ofCells P ty cs = some x) {b off : Nat} {vs : List Value} (hr : RelL g cs vs) (hc : CellsIn w b off vs) :
    ∃ v, (loadVar ty ⟨b, off, none⟩).run P w = .ok v w ∧ RelV g x v ∧ ∀ (w' : World) (p : Kind), OwnAt g w' p x v := by
  unfold ofCells at hx
  split at hx
  · rename_i n hi
    split at hx
    · rename_i hn
      cases hx
      refine ⟨_, run_loadVar_cells hi (hr.len ▸ hn) hc, ?_, fun _ _ => .none rfl⟩
      have := (hr.take n).map_drop DV.shed (fun _ _ => RelV.shed)
      exact .agg this.len this.at_
    · cases hx
  · rename_i n hi
    split at hx
    · rename_i c cs'
      cases hx
      obtain ⟨v, us, rfl, hv, hrest⟩ := hr.cons_inv
      obtain ⟨u1, u2⟩ := unraw_rel (elK P ty) hv
      exact ⟨v, run_loadVar_one hi (by simpa using hc 0 v rfl), u1, u2⟩
    · cases hx
  · cases hx

theorem ofCellsR_rel {P : Program} {g : Gh} {w : World} {r : Bool} {ty : TypeId} {cs : List DV} {x : DV} (hx : ofCellsR P r ty cs = some x) {b off : Nat} {vs : List Value} (hr : RelL g cs vs) (hc : CellsIn w b off vs) :
    ∃ v, (loadVar ty ⟨b, off, none⟩).run P w = .ok v w ∧ RelV g x v ∧ ∀ (w' : World) (p : Kind), OwnAt g w' p x v := by
  unfold ofCellsR at hx
  split at hx
  · split at hx
    · rename_i n hi
      split at hx
      · rename_i c cs'
        cases hx
        obtain ⟨v, us, rfl, hv, hrest⟩ := hr.cons_inv
        exact ⟨v, run_loadVar_one hi (by simpa using hc 0 v rfl), hv.shed, fun _ _ => .shed⟩
      · cases hx
    · cases hx
  · exact ofCells_rel hx hr hc

/-- What part of an aggregate is. -/
theorem part_rel {P : Program} {g : Gh} {w : World} {ty : TypeId} {cs : List DV} {off : Nat} {x : DV} (hx : ofCells P ty (cs.drop off) = some x) {vs : List Value} (hr : RelL g cs vs) :
    ∃ v, (part ty vs.toArray off).run P w = .ok v w ∧ RelV g x v ∧ ∀ (w' : World) (p : Kind), OwnAt g w' p x v := by
  have hd := hr.drop off
  unfold ofCells at hx
  split at hx
  · rename_i n hi
    obtain ⟨i, d, h1, h2, h3, h4⟩ := tinfo_spec hi
    split at hx
    · rename_i hn
      cases hx
      have := (hd.take n).map_drop DV.shed (fun _ _ => RelV.shed)
      refine ⟨.agg ((vs.drop off).take n).toArray, ?_, .agg this.len this.at_, fun _ _ => .none rfl⟩
      have he : vs.toArray.extract off (off + n) = ((vs.drop off).take n).toArray := by
        apply Array.ext'
        simp [List.drop_take]
      simp [part, Sem.run_bind, run_isAgg h3, h4, sizeOf, typeInfo, h1, h2, he]
    · cases hx
  · rename_i n hi
    obtain ⟨i, d, h1, h2, h3, h4⟩ := tinfo_spec hi
    split at hx
    · rename_i c cs' hcs
      cases hx
      rw [hcs] at hd
      obtain ⟨v, us, hvs, hv, hrest⟩ := hd.cons_inv
      have hget : vs[off]? = some v := by
        have : (vs.drop off)[0]? = some v := by rw [hvs]; rfl
        rw [List.getElem?_drop] at this
        simpa using this
      obtain ⟨u1, u2⟩ := unraw_rel (elK P ty) hv
      refine ⟨v, ?_, u1, u2⟩
      simp [part, Sem.run_bind, run_isAgg h3, h4, hget]
    · cases hx
  · cases hx

end Go.DS

/-
  Operations that change nothing but their own slot: the model does what the evaluator says. First part.
-/
namespace Go.DS
set_option linter.unusedSectionVars false
variable [M : Mono]
open Go
set_option linter.unusedVariables false

/-- What a calm operation comes to. -/
def CalmOut (P : Program) (o : Oper) (a : Act) (g : Gh) (w : World) (h : DHeap) (d : Nat) (t : List DV) (x : DV) : Prop :=
  ∃ g' w' v, (execOp a.eval o).run P w = .ok (.value v) w' ∧ Ext (d + 1) g g' w w' ∧ WInv g' h w' ∧ RelP g' t a.tmps x v ∧ ∀ p, OwnAt g' w' p x v

section
variable {P : Program} {o : Oper} {a : Act} {g : Gh} {w : World} {h : DHeap} {d : Nat} {t : List DV} {x : DV}

theorem ownAt_of_shed {g : Gh} {w : World} {p : Kind} {x : DV} {v : Value} (hs : x.shed = x) : OwnAt g w p x v := by
  rw [← hs]; exact OwnAt.shed

theorem calm_here (hW : WInv g h w) {v : Value} (hr : (execOp a.eval o).run P w = .ok (.value v) w) (hp : RelP g t a.tmps x v) (hs : x.shed = x) : CalmOut P o a g w h d t x :=
  ⟨g, w, v, hr, .refl _ _ _, hW, hp, fun _ => ownAt_of_shed hs⟩

theorem calm_own (hW : WInv g h w) {v : Value} (hr : (execOp a.eval o).run P w = .ok (.value v) w) (hp : RelP g t a.tmps x v) (hs : ∀ (w' : World) (p : Kind), OwnAt g w' p x v) : CalmOut P o a g w h d t x :=
  ⟨g, w, v, hr, .refl _ _ _, hW, hp, fun p => hs w p⟩

theorem shed_shed (x : DV) : x.shed.shed = x.shed := DV.shed_shed x

theorem calm_move (hT : RelT g w d t a.tmps) (hW : WInv g h w) {y : Operand} (ho : o.op = .move y ∨ o.op = .assign y) : CalmOut P o a g w h d t (opnd P o.type t y).shed :=
  calm_here hW (v := a.eval y) (by rcases ho with ho | ho <;> simp [execOp, ho]) (opnd_rel hT o.type y).shed (shed_shed _)

theorem relP_sc {v u : Value} (hp : RelP g t a.tmps (.sc v) u) : u = v := by
  cases hp; rfl

theorem calm_pick (hT : RelT g w d t a.tmps) (hW : WInv g h w) {c y z : Operand} (ho : o.op = .pick c y z) {b : Bool} (hc : opnd P o.type t c = .sc (.bool b)) :
    CalmOut P o a g w h d t (opnd P o.type t (if b then y else z)).shed := by
  have h1 := opnd_rel (P := P) hT o.type c
  rw [hc] at h1
  have h2 := relP_sc h1
  refine calm_here hW (v := a.eval (if b then y else z)) ?_ (opnd_rel hT o.type _).shed (shed_shed _)
  simp only [execOp, ho, h2, asBool]
  cases b <;> simp

theorem calm_unOp (hT : RelT g w d t a.tmps) (hW : WInv g h w) {op : UnOp} {ty : TypeId} {y : Operand} (ho : o.op = .unOp op ty y) {u r : Value} (hy : opnd P ty t y = .sc u)
    (hd : det P (Op.unary op u) = some r) : CalmOut P o a g w h d t (.sc r) := by
  have h1 := opnd_rel (P := P) hT ty y
  rw [hy] at h1
  have h2 := relP_sc h1
  refine calm_here hW (v := r) ?_ (RelV.sc r).relP rfl
  simp [execOp, ho, h2, det_run _ hd w]

theorem calm_convert_int (hT : RelT g w d t a.tmps) (hW : WInv g h w) {src dst : TypeId} {y : Operand} (ho : o.op = .convert src dst y) {k k' k'' : IntKind} {n : Int} {r : Value}
    (hs : P.underlying src = some (.int k)) (hd : P.underlying dst = some (.int k')) (hy : opnd P src t y = .sc (.int k'' n)) (hr : det P (Conv.intToInt k' n) = some r) : CalmOut P o a g w h d t (.sc r) := by
  have h1 := opnd_rel (P := P) hT src y
  rw [hy] at h1
  have h2 := relP_sc h1
  refine calm_here hW (v := r) ?_ (RelV.sc r).relP rfl
  simp [execOp, ho, h2, convert, run_underlying hs, run_underlying hd, det_run _ hr w]

theorem calm_convert_str (hT : RelT g w d t a.tmps) (hW : WInv g h w) {src dst : TypeId} {y : Operand} (ho : o.op = .convert src dst y) {s : ByteArray}
    (hs : P.underlying src = some .string) (hd : P.underlying dst = some .string) (hy : opnd P src t y = .sc (.string s)) : CalmOut P o a g w h d t (.sc (.string s)) := by
  have h1 := opnd_rel (P := P) hT src y
  rw [hy] at h1
  have h2 := relP_sc h1
  refine calm_here hW (v := .string s) ?_ (RelV.sc _).relP rfl
  simp [execOp, ho, h2, convert, run_underlying hs, run_underlying hd]

theorem unbytes_flat : ∀ {l : List (List DV)} {xs : List Int}, unbytes l = some xs → l.flatten = xs.map (fun n => DV.sc (.int .u8 n)) ∧ l.length = xs.length
  | [], xs, h => by simp [unbytes] at h; subst h; exact ⟨rfl, rfl⟩
  | r :: l, xs, h => by
    unfold unbytes at h
    split at h
    · rename_i heq; cases heq
    · rename_i n l' heq
      cases heq
      split at h
      · rename_i q hq
        cases h
        obtain ⟨h1, h2⟩ := unbytes_flat hq
        exact ⟨by simp only [List.flatten_cons, h1, List.map_cons]; rfl, by simp [h2]⟩
      · cases h
    · cases h
theorem calm_convert_bytes (hT : RelT g w d t a.tmps) (hW : WInv g h w) {src dst e : TypeId} {y : Operand} (ho : o.op = .convert src dst y) {own : Bool} {es : Nat} {l : List (List DV)} {xs : List Int}
    (hs : P.underlying src = some (.slice e)) (hd : P.underlying dst = some .string) (he : P.underlying e = some (.int .u8)) (hy : opnd P src t y = .list own es l) (hb : unbytes l = some xs) : CalmOut P o a g w h d t (.sc (.string (strOfNums xs))) := by
  have h1 := opnd_rel (P := P) hT src y
  rw [hy] at h1
  obtain ⟨hf, hl⟩ := unbytes_flat hb
  generalize hv : a.eval y = v at h1
  have h2 : RelV g (.list own es l) v := h1
  cases h2 with
  | empty =>
    rename_i ad cap
    have : xs = [] := by simpa using hl.symm
    subst this
    refine calm_here hW (v := .string (strOfNums [])) ?_ (RelV.sc _).relP rfl
    cases ad with
    | none =>
      have h0 : (convert src dst (.slice none 0 cap)).run P w = .ok (.string ByteArray.empty) w := run_convert_bytes_nil _ src e hs he 0 cap dst hd
      have h1 : strOfNums [] = ByteArray.empty := rfl
      rw [h1]
      simp only [execOp, ho, hv]; simp [h0]
    | some ad =>
      have : (convert src dst (.slice (some ad) 0 cap)).run P w = .ok (.string (strOfNums [])) w := by
        rw [run_convert_bytes_string w src dst e _ 0 cap hs he hd, run_bytesToString w ad 0 cap [] (by simp [loadCells, loadCellsFrom])]
        rfl
      simp only [execOp, ho, hv]; simp [this]
  | list q1 q2 q3 q4 q5 =>
    rename_i cap b off vs
    have hcell : ∀ i, i < l.length → w.cell? ⟨b, off + i, none⟩ = some (.int .u8 (xs.getD i 0)) := fun i hi => by
      have hx : l.flatten[i]? = some (.sc (.int .u8 (xs.getD i 0))) := by
        rw [hf, List.getElem?_map, List.getElem?_eq_getElem (by omega)]
        simp [List.getD, List.getElem?_eq_getElem (show i < xs.length by omega)]
      obtain ⟨v, hv1, hv2⟩ := RelL.get ⟨q3, q4⟩ hx
      have : v = .int .u8 (xs.getD i 0) := by cases hv2; rfl
      subst this
      exact hW.pc _ _ _ (q5 i _ hv1)
    have := run_convert_bytes_arg w src e hs he b off l.length cap xs hl.symm hcell dst hd
    refine calm_here hW (v := .string (strOfNums xs)) ?_ (RelV.sc _).relP rfl
    simp only [execOp, ho, hv]; simp [this]

theorem calm_extract (hT : RelT g w d t a.tmps) (hW : WInv g h w) {y : Operand} {i : Nat} (ho : o.op = .extract y i) {cs : List DV} {c : DV} (hy : opnd P o.type t y = .tup cs) (hc : cs[i]? = some c) :
    CalmOut P o a g w h d t c.shed := by
  have h1 := opnd_rel (P := P) hT o.type y
  rw [hy] at h1
  generalize hv : a.eval y = v at h1
  cases h1 with
  | tup h2 h3 =>
    rename_i vs
    obtain ⟨u, hu, hr⟩ := (RelL.mk h2 h3).get hc
    refine calm_here hW (v := u) ?_ hr.shed.relP (shed_shed _)
    simp [execOp, ho, hv, Instr.extract, hu]

theorem fieldOff_spec {s : TypeId} {f : Nat} {ft : TypeId} {off : Nat} (h : fieldOff P s f = some (ft, off)) :
    ∃ fs fl, P.underlying s = some (.struct fs) ∧ fs[f]? = some fl ∧ fl.type = ft ∧ fl.offset = off ∧ sz P ft ≠ 0 := by
  unfold fieldOff at h
  split at h
  · rename_i fs hu
    split at h
    · rename_i fl hf
      split at h
      · cases h
      · rename_i hz
        cases h
        exact ⟨fs, fl, hu, hf, rfl, rfl, hz⟩
    · cases h
  · cases h

theorem calm_field (hT : RelT g w d t a.tmps) (hW : WInv g h w) {ty : TypeId} {y : Operand} {f : Nat} (ho : o.op = .field ty y f) {cs : List DV} {ft : TypeId} {off : Nat}
    (hy : opnd P ty t y = .agg cs) (hf : fieldOff P ty f = some (ft, off)) (hx : ofCells P ft (cs.drop off) = some x) : CalmOut P o a g w h d t x := by
  have h1 := opnd_rel (P := P) hT ty y
  rw [hy] at h1
  generalize hv : a.eval y = v at h1
  obtain ⟨fs, fl, hu, hfl, rfl, rfl, hz⟩ := fieldOff_spec hf
  cases h1 with
  | agg h2 h3 =>
    rename_i vs
    obtain ⟨u, hr, hrel, hs⟩ := part_rel (w := w) hx (RelL.mk h2 h3)
    refine calm_own hW (v := u) ?_ hrel.relP hs
    simp [execOp, ho, hv, Instr.field, run_underlying hu, hfl, asAgg, hr]

theorem sz_run {ty : TypeId} (h : sz P ty ≠ 0) (w : World) : (sizeOf ty).run P w = .ok (sz P ty) w := by
  unfold sz at *
  cases hi : P.info? ty with
  | none => simp [hi] at h
  | some i => simp [sizeOf, typeInfo, hi]

theorem moveD_rel {tmps : Array Value} {p q : DV} {v : Value} {n : Nat} (hp : RelP g t tmps p v) (hm : moveD t n p = some q) :
    ∃ b off, v = .pointer (some ⟨b, off, none⟩) ∧ RelP g t tmps q (.pointer (some ⟨b, off + n, none⟩)) ∧ q.shed = q := by
  cases p <;> simp only [moveD] at hm <;> try (cases hm)
  · cases hp
    exact ⟨_, _, rfl, RelV.ptr (by assumption), rfl⟩
  · rename_i s off
    split at hm
    · rename_i cs hcs
      cases hm
      obtain ⟨b, rfl, hb⟩ := hp cs hcs
      refine ⟨b, off, rfl, fun cs' hcs' => ⟨b, rfl, hb⟩, rfl⟩
    · cases hm
  · cases hp with
    | eptr h1 h2 h3 =>
      rename_i vs b off
      refine ⟨b, off, rfl, ?_, rfl⟩
      have := (RelL.mk h1 h2).drop n
      exact RelV.eptr this.len this.at_ (fun k v hv => by rw [List.getElem?_drop] at hv; rw [Nat.add_assoc]; exact h3 _ _ hv)
  · cases hp
    exact ⟨_, _, rfl, RelV.rptr (by assumption), rfl⟩

theorem calm_fieldAddr (hT : RelT g w d t a.tmps) (hW : WInv g h w) {s : TypeId} {y : Operand} {f : Nat} (ho : o.op = .fieldAddr s y f) {ft : TypeId} {off : Nat}
    (hf : fieldOff P s f = some (ft, off)) (hx : moveD t off (opnd P o.type t y) = some x) : CalmOut P o a g w h d t x := by
  obtain ⟨b, of, hv, hr, hs⟩ := moveD_rel (opnd_rel (P := P) hT o.type y) hx
  obtain ⟨fs, fl, hu, hfl, rfl, rfl, hz⟩ := fieldOff_spec hf
  refine calm_here hW (v := .pointer (some ⟨b, of + fl.offset, none⟩)) ?_ hr hs
  simp [execOp, ho, hv, Instr.fieldAt, run_underlying hu, hfl, Instr.sureAddr, fieldPlace, sz_run hz, hz, add_spot]

theorem calm_load (hT : RelT g w d t a.tmps) (hW : WInv g h w) {ty : TypeId} {y : Operand} (ho : o.op = .load ty y) {cs : List DV}
    (hc : cellsAt t h (opnd P o.type t y) = some cs) (hx : ofCells P ty cs = some x) : CalmOut P o a g w h d t x := by
  obtain ⟨b, off, vs, hv, hr, hin⟩ := cellsAt_rel hT hW (opnd_rel (P := P) hT o.type y) hc
  obtain ⟨v, hl, hrel, hs⟩ := ofCells_rel hx hr hin
  refine calm_own hW (v := v) ?_ hrel.relP hs
  simp [execOp, ho, hv, Instr.loadAt, Instr.sureAddr, hl]

theorem intD_spec {y : DV} {n : Int} (h : intD y = some n) : ∃ k, y = .sc (.int k n) := by
  unfold intD at h
  split at h
  · cases h; exact ⟨_, rfl⟩
  · cases h

theorem opnd_int (hT : RelT g w d t a.tmps) {ty : TypeId} {y : Operand} {n : Int} (h : intD (opnd P ty t y) = some n) : ∃ k, a.eval y = .int k n := by
  obtain ⟨k, hk⟩ := intD_spec h
  have h1 := opnd_rel (P := P) hT ty y
  rw [hk] at h1
  exact ⟨k, relP_sc h1⟩

theorem flatten_get {α : Type} {es : Nat} : ∀ {l : List (List α)} (hl : ∀ x ∈ l, x.length = es) {i : Nat} {c : List α} (hc : l[i]? = some c) (k : Nat) (hk : k < es), l.flatten[i * es + k]? = c[k]?
  | [], hl, i, c, hc, k, hk => by simp at hc
  | x :: l, hl, i, c, hc, k, hk => by
    have hx : x.length = es := hl x (by simp)
    cases i with
    | zero =>
      simp at hc; subst hc
      simp [List.getElem?_append, hx, hk]
    | succ i =>
      simp at hc
      have ih := flatten_get (fun y hy => hl y (by simp [hy])) hc k hk
      rw [List.flatten_cons, List.getElem?_append_right (by rw [hx, Nat.succ_mul]; omega), hx]
      rw [show (i + 1) * es + k - es = i * es + k by rw [Nat.succ_mul]; omega]
      exact ih

/-- The element of a list, as cells. -/
theorem list_elem {own : Bool} {es : Nat} {l : List (List DV)} {v : Value} (hr : RelV g (.list own es l) v) {i : Nat} {c : List DV} (hc : l[i]? = some c) :
    ∃ b off cap vs, v = .slice (some ⟨b, off, none⟩) l.length cap ∧ c.length = es ∧ RelL g c vs ∧ (∀ (k : Nat) (u : Value), vs[k]? = some u → g.pc b (off + i * es + k) = some u) := by
  cases hr with
  | empty => simp at hc
  | list h1 h2 h3 h4 h5 =>
    rename_i cap b off vs
    have hce : c.length = es := h2 c (List.mem_of_getElem? hc)
    have hi : i < l.length := (List.getElem?_eq_some_iff.1 hc).1
    have hr : RelL g l.flatten vs := ⟨h3, h4⟩
    have hsub : ((l.flatten.drop (i * es)).take es) = c := by
      apply List.ext_getElem?
      intro k
      rw [List.getElem?_take]
      split
      · rename_i hk
        rw [List.getElem?_drop, flatten_get h2 hc k hk]
      · rename_i hk
        rw [List.getElem?_eq_none (by omega)]
    have h6 := (hr.drop (i * es)).take es
    rw [hsub] at h6
    refine ⟨b, off, cap, _, rfl, hce, h6, fun k u hu => ?_⟩
    rw [List.getElem?_take] at hu
    split at hu
    · rw [List.getElem?_drop] at hu
      rw [Nat.add_assoc]; exact h5 _ _ hu
    · cases hu

theorem calm_indexAddr_slice (hT : RelT g w d t a.tmps) (hW : WInv g h w) {ty e : TypeId} {y z : Operand} (ho : o.op = .indexAddr ty y z) {i : Int} (hi : intD (opnd P o.type t z) = some i)
    (hu : P.underlying ty = some (.slice e)) {own : Bool} {es : Nat} {l : List (List DV)} (hy : opnd P ty t y = .list own es l) (h0 : 0 ≤ i) (he : es = sz P e) (hes : sz P e ≠ 0) {c : List DV} (hc : l[i.toNat]? = some c) :
    CalmOut P o a g w h d t (.eptr c) := by
  obtain ⟨k, hk⟩ := opnd_int hT hi
  have h1 := opnd_rel (P := P) hT ty y
  rw [hy] at h1
  obtain ⟨b, off, cap, vs, hv, hlen, hrel, hpc⟩ := list_elem (g := g) h1 hc
  have hlt : i.toNat < l.length := (List.getElem?_eq_some_iff.1 hc).1
  refine calm_here hW (v := .pointer (some ⟨b, off + i.toNat * es, none⟩)) ?_ (RelV.eptr hrel.len hrel.at_ hpc).relP rfl
  have hil : i < (l.length : Int) := by omega
  simp [execOp, ho, hv, hk, Instr.indexAt, run_underlying hu, asIntOf, h0, hil, sz_run hes, add_spot, he]

theorem calm_indexAddr_vec (hT : RelT g w d t a.tmps) (hW : WInv g h w) {ty e : TypeId} {y z : Operand} (ho : o.op = .indexAddr ty y z) {i : Int} (hi : intD (opnd P o.type t z) = some i)
    (hu : P.underlying ty = some (.slice e)) {j es off n : Nat} (hy : opnd P ty t y = .vec j es off n) (h0 : 0 ≤ i) (hn : i < n) (he : es = sz P e) (hes : sz P e ≠ 0) :
    CalmOut P o a g w h d t (.rptr j ((off + i.toNat) * es)) := by
  obtain ⟨k, hk⟩ := opnd_int hT hi
  have h1 := opnd_rel (P := P) hT ty y
  rw [hy] at h1
  generalize hv : a.eval y = v at h1
  cases h1 with
  | vec0 => omega
  | vec hj hc hb =>
    refine calm_here hW (v := .pointer (some ⟨g.η j, (off + i.toNat) * es, none⟩)) ?_ (RelV.rptr hj).relP rfl
    have hil : i < (n : Int) := by omega
    simp [execOp, ho, hv, hk, Instr.indexAt, run_underlying hu, asIntOf, h0, hil, sz_run hes, add_spot, he, Nat.add_mul]

theorem calm_indexAddr_array (hT : RelT g w d t a.tmps) (hW : WInv g h w) {ty e : TypeId} {n : Nat} {y z : Operand} (ho : o.op = .indexAddr ty y z) {i : Int} (hi : intD (opnd P o.type t z) = some i)
    (hu : P.underlying ty = some (.array n e)) (h0 : 0 ≤ i) (hn : i < n) (hes : sz P e ≠ 0) (hx : moveD t (i.toNat * sz P e) (opnd P ty t y) = some x) : CalmOut P o a g w h d t x := by
  obtain ⟨k, hk⟩ := opnd_int hT hi
  obtain ⟨b, of, hv, hr, hs⟩ := moveD_rel (opnd_rel (P := P) hT ty y) hx
  refine calm_here hW (v := .pointer (some ⟨b, of + i.toNat * sz P e, none⟩)) ?_ hr hs
  simp [execOp, ho, hv, hk, Instr.indexAt, run_underlying hu, asIntOf, h0, hn, sz_run hes, add_spot, Instr.sureAddr]

theorem calm_index_str (hT : RelT g w d t a.tmps) (hW : WInv g h w) {ty : TypeId} {y z : Operand} (ho : o.op = .index ty y z) {i : Int} (hi : intD (opnd P o.type t z) = some i)
    (hu : P.underlying ty = some .string) {s : ByteArray} (hy : opnd P ty t y = .sc (.string s)) (h0 : 0 ≤ i) {b : UInt8} (hb : s[i.toNat]? = some b) : CalmOut P o a g w h d t (.sc (.int .u8 b.toNat)) := by
  obtain ⟨k, hk⟩ := opnd_int hT hi
  have h1 := opnd_rel (P := P) hT ty y
  rw [hy] at h1
  have h2 := relP_sc h1
  refine calm_here hW (v := .int .u8 b.toNat) ?_ (RelV.sc _).relP rfl
  simp [execOp, ho, h2, hk, Instr.index, run_underlying hu, asIntOf, h0, hb]

theorem calm_index_arr (hT : RelT g w d t a.tmps) (hW : WInv g h w) {ty e : TypeId} {n : Nat} {y z : Operand} (ho : o.op = .index ty y z) {i : Int} (hi : intD (opnd P o.type t z) = some i)
    (hu : P.underlying ty = some (.array n e)) {cs : List DV} (hy : opnd P ty t y = .agg cs) (h0 : 0 ≤ i) (hn : i < n) (hes : sz P e ≠ 0) (hx : ofCells P e (cs.drop (i.toNat * sz P e)) = some x) : CalmOut P o a g w h d t x := by
  obtain ⟨k, hk⟩ := opnd_int hT hi
  have h1 := opnd_rel (P := P) hT ty y
  rw [hy] at h1
  generalize hv : a.eval y = v at h1
  cases h1 with
  | agg h2 h3 =>
    rename_i vs
    obtain ⟨u, hr, hrel, hs⟩ := part_rel (w := w) hx (RelL.mk h2 h3)
    refine calm_own hW (v := u) ?_ hrel.relP hs
    simp [execOp, ho, hv, hk, Instr.index, run_underlying hu, asIntOf, h0, hn, sz_run hes, hr]

theorem calm_nilCheck (hT : RelT g w d t a.tmps) (hW : WInv g h w) {y : Operand} (ho : o.op = .nilCheck y) (hx : moveD t 0 (opnd P o.type t y) = some x) : CalmOut P o a g w h d t x := by
  obtain ⟨b, of, hv, hr, hs⟩ := moveD_rel (opnd_rel (P := P) hT o.type y) hx
  refine calm_here hW (v := .pointer (some ⟨b, of, none⟩)) ?_ hr hs
  simp [execOp, ho, hv]

theorem calm_len (hT : RelT g w d t a.tmps) (hW : WInv g h w) {args : Array Operand} {argTypes : Array TypeId} (ho : o.op = .call { callee := .builtin .len, args, argTypes }) {y : Operand} {ty : TypeId}
    (ha : args[0]? = some y) (hs : args.size = 1) (ht : argTypes[0]? = some ty) {n : Nat} (hl : lenD P ty h (opnd P ty t y) = some n) : CalmOut P o a g w h d t (.sc (.int .i64 n)) := by
  have h1 := opnd_rel (P := P) hT ty y
  refine calm_here hW (v := .int .i64 n) ?_ (RelV.sc _).relP rfl
  have hargs : args = #[y] := by
    apply Array.ext'
    obtain ⟨l⟩ := args
    simp at ha hs ⊢
    match l, ha, hs with
    | [z], ha, _ => simp at ha; subst ha; rfl
  subst hargs
  unfold lenD at hl
  split at hl
  · rename_i s heq
    rw [heq] at h1
    have h2 := relP_sc h1
    split at hl
    · rename_i hu
      cases hl
      simp [execOp, ho, resolve, invoke, builtin, Builtin.len_, ht, h2, run_underlying hu, goInt]
    · cases hl
  · rename_i own es l heq
    rw [heq] at h1
    split at hl
    · rename_i e hu
      cases hl
      generalize hv : a.eval y = v at h1
      cases h1 with
      | empty => simp [execOp, ho, resolve, invoke, builtin, Builtin.len_, ht, hv, run_underlying hu, goInt]
      | list => simp [execOp, ho, resolve, invoke, builtin, Builtin.len_, ht, hv, run_underlying hu, goInt]
    · cases hl
  · rename_i j es off k heq
    rw [heq] at h1
    split at hl
    · rename_i e hu
      cases hl
      generalize hv : a.eval y = v at h1
      cases h1 with
      | vec => simp [execOp, ho, resolve, invoke, builtin, Builtin.len_, ht, hv, run_underlying hu, goInt]
      | vec0 => simp [execOp, ho, resolve, invoke, builtin, Builtin.len_, ht, hv, run_underlying hu, goInt]
    · cases hl
  · rename_i heq
    rw [heq] at h1
    have h2 := relP_sc h1
    split at hl
    · rename_i e hu
      cases hl
      simp [execOp, ho, resolve, invoke, builtin, Builtin.len_, ht, h2, run_underlying hu, goInt]
    · cases hl
  · rename_i heq
    rw [heq] at h1
    have h2 := relP_sc h1
    split at hl
    · rename_i k e hu
      cases hl
      simp [execOp, ho, resolve, invoke, builtin, Builtin.len_, ht, h2, run_underlying hu, goInt]
    · cases hl
  · rename_i i heq
    rw [heq] at h1
    split at hl
    · rename_i k e es hu hes
      cases hl
      generalize hv : a.eval y = v at h1
      cases h1
      obtain ⟨ents, clk, h2, h3, h4, h5, _⟩ := hW.obj _ _ hes
      have hlen : es.length = ents.size := by have := h5.len; simpa using this
      simp [execOp, ho, resolve, invoke, builtin, Builtin.len_, ht, hv, run_underlying hu, goInt, getObj, Sem.run, h2, hlen]
    · cases hl
  · cases hl

theorem calm_mm (hT : RelT g w d t a.tmps) (hW : WInv g h w) {mx : Bool} {args : Array Operand} {argTypes : Array TypeId} (ho : o.op = .call { callee := .builtin (if mx then .max else .min), args, argTypes }) {y z : Operand}
    (ha : args[0]? = some y) (ha2 : args[1]? = some z) (hs : args.size = 2) (hl : mmD mx (opnd P 0 t y) (opnd P 0 t z) = some x) : CalmOut P o a g w h d t x := by
  have h1 := opnd_rel (P := P) hT 0 y
  have h2 := opnd_rel (P := P) hT 0 z
  have hargs : args = #[y, z] := by
    apply Array.ext'
    obtain ⟨l⟩ := args
    simp at ha ha2 hs ⊢
    match l, ha, ha2, hs with
    | [u, v], ha, ha2, _ => simp at ha ha2; subst ha; subst ha2; rfl
  subst hargs
  unfold mmD at hl
  split at hl
  · rename_i k p k' q e1 e2
    cases hl
    rw [e1] at h1
    rw [e2] at h2
    have h1' := relP_sc h1
    have h2' := relP_sc h2
    refine calm_here hW (v := .int k (mmI mx p q)) ?_ (RelV.sc _).relP rfl
    cases mx <;> simp [execOp, ho, resolve, invoke, builtin, Builtin.max_, Builtin.min_, Builtin.max2, Builtin.min2, h1', h2', mmI]
  · cases hl

theorem calm_makeInterface (hT : RelT g w d t a.tmps) (hW : WInv g h w) {ty : TypeId} {y : Operand} (ho : o.op = .makeInterface ty y) {u : TypeDesc} (hu : P.underlying ty = some u)
    (hn : ∀ ms, u ≠ .interface ms) (hp : (opnd P ty t y).shed.plain = true) : CalmOut P o a g w h d t (.iface ty (opnd P ty t y).shed) := by
  have h1 := (opnd_rel (P := P) hT ty y).shed
  rw [RelP.of_plain hp] at h1
  refine calm_here hW (v := .iface ty (a.eval y)) ?_ (RelV.iface h1).relP rfl
  cases u <;> first | (exact absurd rfl (hn _)) | simp [execOp, ho, Instr.makeInterface, run_underlying hu]

end
end Go.DS

/-
  ==, !=, and the tests of binary operations.
-/
namespace Go.DS
set_option linter.unusedSectionVars false
variable [M : Mono]
open Go
set_option linter.unusedVariables false

example (v : Value) : heapFree (.agg [.sc v, .list true 1 [[.sc v]]]) = true := rfl
example (v : Value) : toVal (.agg [.sc v, .sc v]) = some (.agg #[v, v]) := rfl

section
variable {P : Program} {o : Oper} {a : Act} {g : Gh} {w : World} {h : DHeap} {d : Nat} {t : List DV} {x : DV}

theorem scs_rel : ∀ {ds : List DV} {xs vs : List Value}, scs ds = some xs → RelL g ds vs → vs = xs
  | [], xs, vs, hs, hr => by simp [scs] at hs; subst hs; exact hr.nil_inv
  | e :: ds, xs, vs, hs, hr => by
    cases e <;> simp only [scs] at hs <;> try (cases hs)
    obtain ⟨v, us, rfl, hv, hrest⟩ := hr.cons_inv
    split at hs
    · rename_i y hy
      cases hs
      cases hv
      rw [scs_rel hy hrest]
    · cases hs

theorem eqV_append : ∀ {ks ls : List Nat} {x x' y y' : List Value} {r r' : Bool}, eqV ks x y = some r → eqV ls x' y' = some r' → eqV (ks ++ ls) (x ++ x') (y ++ y') = some (r && r')
  | [], ls, x, x', y, y', r, r', h, h' => by
    cases x <;> cases y <;> simp [eqV] at h
    subst h; simpa using h'
  | k :: ks, ls, x, x', y, y', r, r', h, h' => by
    cases x <;> cases y <;> simp only [eqV] at h <;> try (cases h)
    rename_i a x b y
    split at h
    · rename_i p q hp hq
      cases h
      have ih := eqV_append hq h'
      simp [eqV, hp, ih, Bool.and_assoc]
    · cases h

theorem eqV_split : ∀ {ks ls : List Nat} {x y : List Value} {r : Bool}, eqV (ks ++ ls) x y = some r → ∃ p q, eqV ks (x.take ks.length) (y.take ks.length) = some p ∧ eqV ls (x.drop ks.length) (y.drop ks.length) = some q ∧ r = (p && q)
  | [], ls, x, y, r, h => ⟨true, r, by simp [eqV], by simpa using h, by simp⟩
  | k :: ks, ls, x, y, r, h => by
    cases x <;> cases y <;> simp only [List.cons_append, eqV] at h <;> try (cases h)
    rename_i a x b y
    split at h
    · rename_i p q hp hq
      cases h
      obtain ⟨p', q', h1, h2, h3⟩ := eqV_split hq
      refine ⟨p && p', q', ?_, ?_, ?_⟩
      · simp [eqV, hp, h1]
      · simpa using h2
      · rw [h3, Bool.and_assoc]
    · cases h

theorem eqV_len : ∀ {ks : List Nat} {x y : List Value} {r : Bool}, eqV ks x y = some r → x.length = ks.length ∧ y.length = ks.length
  | [], x, y, r, h => by cases x <;> cases y <;> simp [eqV] at h ⊢
  | k :: ks, x, y, r, h => by
    cases x <;> cases y <;> simp only [eqV] at h <;> try (cases h)
    split at h
    · rename_i p q hp hq
      have := eqV_len hq
      simp [this]
    · cases h

/-- A type whose == is that of its cells: the test of whole values. -/
theorem part_take {ty : TypeId} {q : Bool} {n : Nat} (hi : tinfo P ty = some (q, n)) (xs : List Value) (off : Nat) (hl : off + n ≤ xs.length) (h1 : q = false → n = 1) :
    (part ty xs.toArray off).run P w = .ok (if q then .agg ((xs.drop off).take n).toArray else ((xs.drop off).take n).headD undef) w := by
  obtain ⟨i, u, h2, h3, h4, h5⟩ := tinfo_spec hi
  cases q with
  | true =>
    have he : xs.toArray.extract off (off + n) = ((xs.drop off).take n).toArray := by
      apply Array.ext'; simp
    simp [part, Sem.run_bind, run_isAgg h4, h5, sizeOf, typeInfo, h2, h3]
  | false =>
    have hn := h1 rfl
    subst hn
    have hlt : off < xs.length := by omega
    have : xs[off]? = some xs[off] := List.getElem?_eq_getElem hlt
    simp [part, Sem.run_bind, run_isAgg h4, h5, this]
    rw [List.drop_eq_getElem_cons hlt]
    simp [List.take]

theorem flatK_tinfo : ∀ {n : Nat} {ty : TypeId} {ks : List Nat}, flatK P n ty = some ks → ∃ q, tinfo P ty = some (q, ks.length) ∧ (q = false → ks.length = 1)
  | 0, ty, ks, h => by simp [flatK] at h
  | n + 1, ty, ks, h => by
    unfold flatK at h
    split at h
    · rename_i hu hi; cases h; exact ⟨false, hi, fun _ => rfl⟩
    · rename_i hu hi; cases h; exact ⟨false, hi, fun _ => rfl⟩
    · rename_i hu hi; cases h; exact ⟨false, hi, fun _ => rfl⟩
    · rename_i fs m hu hi
      split at h
      · cases h
      · split at h
        · split at h
          · rename_i hl; cases h; exact ⟨true, by rw [hl]; exact hi, fun e => by cases e⟩
          · cases h
        · cases h
    · cases h

theorem eqV_one {k : Nat} {xs ys : List Value} {r : Bool} (h : eqV [k] xs ys = some r) : ∃ x y, xs = [x] ∧ ys = [y] := by
  have := eqV_len h
  match xs, ys, this with
  | [x], [y], _ => exact ⟨x, y, rfl, rfl⟩

/-- The value of a type with the cells xs. -/
def valOf (q : Bool) (xs : List Value) : Value := if q then .agg xs.toArray else xs.headD undef

theorem flatK_run : ∀ (n : Nat) (ty : TypeId) (ks : List Nat) (q : Bool) (xs ys : List Value) (r : Bool) (D : Nat), flatK P n ty = some ks → tinfo P ty = some (q, ks.length) → n ≤ D →
    eqV ks xs ys = some r → (Op.equalIn D ty (valOf q xs) (valOf q ys)).run P w = .ok r w
  | 0, ty, ks, q, xs, ys, r, D, h, _, _, _ => by simp [flatK] at h
  | n + 1, ty, ks, q, xs, ys, r, D, h, hq, hD, he => by
    obtain ⟨D, rfl⟩ : ∃ m, D = m + 1 := ⟨D - 1, by omega⟩
    unfold flatK at h
    split at h
    · rename_i k hu hi
      cases h
      rw [hi] at hq; cases hq
      obtain ⟨x, y, rfl, rfl⟩ := eqV_one he
      simp only [eqV] at he
      cases x <;> cases y <;> simp only [eq1] at he <;> try (cases he)
      rename_i k1 a1 k2 a2
      by_cases hk : k1 = k2
      · subst hk
        simp at he
        subst he
        simp [valOf, Op.equalIn, run_underlying hu]
      · simp [hk] at he
    · rename_i hu hi
      cases h
      rw [hi] at hq; cases hq
      obtain ⟨x, y, rfl, rfl⟩ := eqV_one he
      simp only [eqV] at he
      cases x <;> cases y <;> simp only [eq1] at he <;> try (cases he)
      simp [valOf, Op.equalIn, run_underlying hu]
    · rename_i hu hi
      cases h
      rw [hi] at hq; cases hq
      obtain ⟨x, y, rfl, rfl⟩ := eqV_one he
      simp only [eqV] at he
      cases x <;> cases y <;> simp only [eq1] at he <;> try (cases he)
      simp [valOf, Op.equalIn, run_underlying hu]
    · rename_i fs m hu hi
      split at h
      · cases h
      · rename_i hp
        split at h
        · rename_i l hg
          split at h
          · rename_i hl
            cases h
            rw [hi] at hq
            cases hq
            have hfs : P.fieldsOf ty = fs := by simp [Program.fieldsOf, hu]
            simp only [valOf, if_true]
            rw [run_equalIn_struct w D ty xs.toArray ys.toArray (by rw [hfs]; exact hu) (by simpa using hp), hfs]
            have key : ∀ (fl : List Field) (off : Nat) (ks' : List Nat) (r' : Bool), goK (flatK P n) fl off = some ks' → off + ks'.length = xs.length → off + ks'.length = ys.length →
                eqV ks' (xs.drop off) (ys.drop off) = some r' → (Op.eqFields D xs.toArray ys.toArray fl).run P w = .ok r' w := by
              intro fl
              induction fl with
              | nil =>
                intro off ks' r' hk h1 h2 h3
                simp [goK] at hk
                subst hk
                have := eqV_len h3
                have e1 : xs.drop off = [] := List.eq_nil_of_length_eq_zero (by simpa using this.1)
                have e2 : ys.drop off = [] := List.eq_nil_of_length_eq_zero (by simpa using this.2)
                rw [e1, e2] at h3
                simp [eqV] at h3
                subst h3
                simp [Op.eqFields]
              | cons f fl ih =>
                intro off ks' r' hk h1 h2 h3
                simp only [goK] at hk
                split at hk
                · rename_i hname
                  obtain ⟨hname, hoff⟩ := hname
                  split at hk
                  · rename_i l hf
                    split at hk
                    · rename_i m hm
                      cases hk
                      obtain ⟨p, q, e1, e2, e3⟩ := eqV_split h3
                      simp only [List.length_append] at h1 h2
                      obtain ⟨qf, hqf, hq1⟩ := flatK_tinfo hf
                      have px := part_take (w := w) hqf xs off (by omega) hq1
                      have py := part_take (w := w) hqf ys off (by omega) hq1
                      have hrec := flatK_run n f.type l qf _ _ p D hf hqf (by omega) e1
                      rw [List.drop_drop, List.drop_drop] at e2
                      have hrest := ih (off + l.length) m q hm (by omega) (by omega) e2
                      simp only [Op.eqFields, hname, ne_eq, not_false_eq_true, if_true, hoff]
                      rw [Sem.run_bind, px, Result.andThen_ok, Sem.run_bind, py, Result.andThen_ok, Sem.run_bind]
                      rw [show (Op.equalIn D f.type (if qf = true then Value.agg ((xs.drop off).take l.length).toArray else ((xs.drop off).take l.length).headD undef) (if qf = true then Value.agg ((ys.drop off).take l.length).toArray else ((ys.drop off).take l.length).headD undef)).run P w = .ok p w from hrec]
                      rw [Result.andThen_ok]
                      cases p with
                      | true => simp [hrest, e3]
                      | false => simp [e3]
                    · cases hk
                  · cases hk
                · cases hk
            have hlen := eqV_len he
            exact key fs.toList 0 ks r hg (by omega) (by omega) (by simpa using he)
          · cases h
        · cases h
    · cases h
end
end Go.DS

/-
  Operations that change nothing but their own slot: second part; all of them together.
-/
namespace Go.DS
set_option linter.unusedSectionVars false
variable [M : Mono]
open Go
set_option linter.unusedVariables false

section
variable {P : Program} {o : Oper} {a : Act} {g : Gh} {w : World} {h : DHeap} {d : Nat} {t : List DV} {x : DV}

theorem run_eqGuard_plain (op : BinOp) (ty : TypeId) (x y : Operand) (u v : Value) (h1 : ¬ (u = .nilIface ∧ v = .nilIface)) (h2 : ∀ p q, ¬ (u = .agg p ∧ v = .agg q)) : (eqGuard op ty x y u v).run P w = .ok () w := by
  cases op <;> simp only [eqGuard, Bool.not_true, Bool.not_false, if_true, Bool.false_eq_true, if_false] <;> try rfl
  all_goals
    split
    · exact (h1 ⟨rfl, rfl⟩).elim
    · exact (h2 _ _ ⟨rfl, rfl⟩).elim
    · rfl

theorem binOp_exec (op : BinOp) (ty yt : TypeId) (x y : Operand) (ho : o.op = .binOp op ty x y yt) {r : Value} (hg : (eqGuard op ty x y (a.eval x) (a.eval y)).run P w = .ok () w)
    (hb : (binOp op ty (a.eval x) (a.eval y)).run P w = .ok r w) : (execOp a.eval o).run P w = .ok (.value r) w := by
  simp [execOp, ho, hg, hb]

theorem agg_inv {cs : List DV} {v : Value} (h : RelV g (.agg cs) v) : ∃ vs : List Value, v = .agg vs.toArray ∧ RelL g cs vs := by
  cases h with
  | agg h1 h2 => exact ⟨_, rfl, ⟨h1, h2⟩⟩

/-- What a value that may be nil is in the model. -/
def NilVal : TypeDesc → Bool → Value → Prop
  | .pointer _, true, v => v = .pointer none
  | .pointer _, false, v => ∃ b, v = .pointer (some b)
  | .map _ _, true, v => v = .map none
  | .map _ _, false, v => ∃ b, v = .map (some b)
  | .func _ _ _, true, v => v = .nilFunc
  | .func _ _ _, false, v => ∃ f x y, v = .func f x y
  | _, _, _ => False

theorem nil_val {tmps : Array Value} {y : DV} {v : Value} {p : Bool} {u : TypeDesc} (hr : RelP g t tmps y v) (hp : isNil u y = some p) : NilVal u p v := by
  unfold isNil at hp
  split at hp <;> cases hp <;> simp only [NilVal]
  all_goals first
    | exact relP_sc hr
    | (cases hr <;> simp; done)

theorem nil_eq {ty : TypeId} {u : TypeDesc} (hu : P.underlying ty = some u) {p q : Bool} {v v' : Value} (hp : NilVal u p v) (hq : NilVal u q v') (hpq : (p || q) = true) (D : Nat) :
    (Op.equalIn (D + 1) ty v v').run P w = .ok (p && q) w := by
  cases u <;> cases p <;> cases q <;> simp only [NilVal] at hp hq <;> try (exact hp.elim) <;> try (simp at hpq; done)
  all_goals first
    | (obtain ⟨b, rfl⟩ := hp; subst hq; simp [Op.equalIn, run_underlying hu]; done)
    | (obtain ⟨b, rfl⟩ := hq; subst hp; simp [Op.equalIn, run_underlying hu]; done)
    | (obtain ⟨f, b, c, rfl⟩ := hp; subst hq; simp [Op.equalIn, run_underlying hu]; done)
    | (obtain ⟨f, b, c, rfl⟩ := hq; subst hp; simp [Op.equalIn, run_underlying hu]; done)
    | (subst hp; subst hq; simp [Op.equalIn, run_underlying hu]; done)
    | simp at hpq

theorem nil_guard {op : BinOp} {ty : TypeId} {y z : Operand} {u : TypeDesc} {p q : Bool} {v v' : Value} (hp : NilVal u p v) (hq : NilVal u q v') : (eqGuard op ty y z v v').run P w = .ok () w := by
  apply run_eqGuard_plain
  · rintro ⟨rfl, rfl⟩; cases u <;> cases p <;> simp [NilVal] at hp
  · rintro p' q' ⟨rfl, rfl⟩; cases u <;> cases p <;> simp [NilVal] at hp

theorem nil_binOp {ty : TypeId} {u : TypeDesc} (hu : P.underlying ty = some u) {p q : Bool} {v v' : Value} (hp : NilVal u p v) (hq : NilVal u q v') (hpq : (p || q) = true) :
    (binOp .eql ty v v').run P w = .ok (.bool (p && q)) w ∧ (binOp .neq ty v v').run P w = .ok (.bool (!(p && q))) w := by
  have h := nil_eq (P := P) (w := w) hu hp hq hpq 9999
  have e1 : binOp .eql ty v v' = (do pure (.bool (← Op.equal ty v v')) : Sem Value) := by
    cases u <;> cases p <;> cases q <;> simp only [NilVal] at hp hq <;> try (exact hp.elim) <;> try (simp at hpq; done)
    all_goals first
      | (obtain ⟨b, rfl⟩ := hp; subst hq; rfl)
      | (obtain ⟨b, rfl⟩ := hq; subst hp; rfl)
      | (obtain ⟨f, b, c, rfl⟩ := hp; subst hq; rfl)
      | (obtain ⟨f, b, c, rfl⟩ := hq; subst hp; rfl)
      | (subst hp; subst hq; rfl)
      | simp at hpq
  have e2 : binOp .neq ty v v' = (do pure (.bool (!(← Op.equal ty v v'))) : Sem Value) := by
    cases u <;> cases p <;> cases q <;> simp only [NilVal] at hp hq <;> try (exact hp.elim) <;> try (simp at hpq; done)
    all_goals first
      | (obtain ⟨b, rfl⟩ := hp; subst hq; rfl)
      | (obtain ⟨b, rfl⟩ := hq; subst hp; rfl)
      | (obtain ⟨f, b, c, rfl⟩ := hp; subst hq; rfl)
      | (obtain ⟨f, b, c, rfl⟩ := hq; subst hp; rfl)
      | (subst hp; subst hq; rfl)
      | simp at hpq
  rw [e1, e2]
  simp [Op.equal, Op.maxDepth, h]

theorem calm_binOp (hT : RelT g w d t a.tmps) (hW : WInv g h w) {op : BinOp} {ty yt : TypeId} {y z : Operand} (ho : o.op = .binOp op ty y z yt) (hb : binD P op ty y z (opnd P ty t y) (opnd P yt t z) = some x) :
    CalmOut P o a g w h d t x := by
  have h1 := opnd_rel (P := P) hT ty y
  have h2 := opnd_rel (P := P) hT yt z
  generalize opnd P ty t y = p at h1 hb
  generalize opnd P yt t z = q at h2 hb
  unfold binD at hb
  split at hb
  · rename_i k m k' n
    have e1 := relP_sc h1
    have e2 := relP_sc h2
    cases hd : det P (binOp op ty (.int k m) (.int k' n)) with
    | none => simp [hd] at hb
    | some r =>
      simp [hd] at hb; subst hb
      refine calm_here hW (v := r) (binOp_exec op ty yt y z ho ?_ ?_) (RelV.sc r).relP rfl
      · exact run_eqGuard_plain _ _ _ _ _ _ (by simp [e1]) (by simp [e1])
      · rw [e1, e2]; exact det_run _ hd w
  · rename_i s u
    have e1 := relP_sc h1
    have e2 := relP_sc h2
    cases hd : det P (binOp op ty (.string s) (.string u)) with
    | none => simp [hd] at hb
    | some r =>
      simp [hd] at hb; subst hb
      refine calm_here hW (v := r) (binOp_exec op ty yt y z ho ?_ ?_) (RelV.sc r).relP rfl
      · exact run_eqGuard_plain _ _ _ _ _ _ (by simp [e1]) (by simp [e1])
      · rw [e1, e2]; exact det_run _ hd w
  · rename_i p q
    have e1 := relP_sc h1
    have e2 := relP_sc h2
    split at hb
    · rename_i hu
      cases hb
      refine calm_here hW (v := .bool (p == q)) (binOp_exec _ ty yt y z ho (run_eqGuard_plain _ _ _ _ _ _ (by simp [e1]) (by simp [e1])) ?_) (RelV.sc _).relP rfl
      rw [e1, e2]
      simp [binOp, Op.equal, Op.maxDepth, run_equalIn_bool w _ ty p q hu]
    · rename_i hu
      cases hb
      refine calm_here hW (v := .bool (!(p == q))) (binOp_exec _ ty yt y z ho (run_eqGuard_plain _ _ _ _ _ _ (by simp [e1]) (by simp [e1])) ?_) (RelV.sc _).relP rfl
      rw [e1, e2]
      simp [binOp, Op.equal, Op.maxDepth, run_equalIn_bool w _ ty p q hu]
    · cases hb
  · rename_i xs ys
    split at hb
    · rename_i ks m hk hi hgd
      obtain ⟨us, e1, r1⟩ := agg_inv h1
      obtain ⟨vs, e2, r2⟩ := agg_inv h2
      obtain ⟨qf, hqf, hq1⟩ := flatK_tinfo hk
      rw [hi] at hqf
      have main : ∀ r, eqs ks xs ys = some r → (Op.equalIn 10000 ty (.agg us.toArray) (.agg vs.toArray)).run P w = .ok r w := by
        intro r hr
        unfold eqs at hr
        split at hr
        · rename_i x' y' hx hy
          have f1 := scs_rel hx r1
          have f2 := scs_rel hy r2
          subst f1; subst f2
          have hm : m = ks.length := by cases hqf; rfl
          exact flatK_run 8 ty ks true _ _ r 10000 hk (by rw [hi, hm]) (by omega) hr
        · cases hr
      split at hb
      · rename_i r hr
        cases hb
        refine calm_here hW (v := .bool r) (binOp_exec _ ty yt y z ho ?_ ?_) (RelV.sc _).relP rfl
        · rw [e1, e2]; exact run_eqGuard_agg w _ ty y z _ _ hgd
        · rw [e1, e2, run_eql_struct, main r hr]; rfl
      · rename_i r hr
        cases hb
        refine calm_here hW (v := .bool (!r)) (binOp_exec _ ty yt y z ho ?_ ?_) (RelV.sc _).relP rfl
        · rw [e1, e2]; exact run_eqGuard_agg w _ ty y z _ _ hgd
        · rw [e1, e2, run_neq_struct, main r hr]; rfl
      · cases hb
    · cases hb
  · split at hb
    · rename_i u hu
      split at hb
      · rename_i p' q' hp hq
        split at hb
        · rename_i hpq
          cases hb
          have n1 := nil_val h1 hp
          have n2 := nil_val h2 hq
          exact calm_here hW (v := .bool (p' && q')) (binOp_exec _ ty yt y z ho (nil_guard n1 n2) (nil_binOp hu n1 n2 hpq).1) (RelV.sc _).relP rfl
        · cases hb
      · rename_i p' q' hp hq
        split at hb
        · rename_i hpq
          cases hb
          have n1 := nil_val h1 hp
          have n2 := nil_val h2 hq
          exact calm_here hW (v := .bool (!(p' && q'))) (binOp_exec _ ty yt y z ho (nil_guard n1 n2) (nil_binOp hu n1 n2 hpq).2) (RelV.sc _).relP rfl
        · cases hb
      · cases hb
    · cases hb
end
end Go.DS

/-
  Slicing, building.
-/
namespace Go.DS
set_option linter.unusedSectionVars false
variable [M : Mono]
open Go
set_option linter.unusedVariables false

section
variable {P : Program} {o : Oper} {a : Act} {g : Gh} {w : World} {h : DHeap} {d : Nat} {t : List DV} {x : DV}

theorem flatten_take {α : Type} {es : Nat} : ∀ {l : List (List α)} (hl : ∀ x ∈ l, x.length = es) (n : Nat), (l.take n).flatten = l.flatten.take (n * es)
  | [], hl, n => by simp
  | x :: l, hl, 0 => by simp
  | x :: l, hl, n + 1 => by
    have hx : x.length = es := hl x (List.mem_cons_self ..)
    have ih := flatten_take (l := l) (es := es) (fun y hy => hl y (List.mem_cons_of_mem _ hy)) n
    have e : (n + 1) * es = n * es + es := Nat.succ_mul n es
    rw [List.take_succ_cons, List.flatten_cons, List.flatten_cons, ih, e]
    generalize n * es = q
    rw [List.take_append, List.take_of_length_le (l := x) (by omega), hx, Nat.add_sub_cancel]

theorem flatten_drop {α : Type} {es : Nat} : ∀ {l : List (List α)} (hl : ∀ x ∈ l, x.length = es) (n : Nat), (l.drop n).flatten = l.flatten.drop (n * es)
  | [], hl, n => by simp
  | x :: l, hl, 0 => by simp
  | x :: l, hl, n + 1 => by
    have hx : x.length = es := hl x (List.mem_cons_self ..)
    have ih := flatten_drop (l := l) (es := es) (fun y hy => hl y (List.mem_cons_of_mem _ hy)) n
    have e : (n + 1) * es = n * es + es := Nat.succ_mul n es
    rw [List.drop_succ_cons, List.flatten_cons, ih, e]
    generalize n * es = q
    rw [List.drop_append, List.drop_eq_nil_of_le (as := x) (by omega), hx, Nat.add_sub_cancel, List.nil_append]

theorem boundD_some {dflt top : Nat} {y : DV} {n : Nat} (h : boundD dflt top (some y) = some n) : ∃ k i, y = .sc (.int k i) ∧ 0 ≤ i ∧ i ≤ top ∧ n = i.toNat := by
  simp only [boundD] at h
  split at h
  · rename_i i hi
    obtain ⟨k, hk⟩ := intD_spec hi
    split at h
    · rename_i hb; cases h; exact ⟨k, i, hk, hb.1, hb.2, rfl⟩
    · cases h
  · cases h

theorem run_sliceBound (k : IntKind) (i : Int) (y : Nat) (code : BoundsCode) (h0 : 0 ≤ i) (h1 : i ≤ y) : (Instr.sliceBound (.int k i) y code).run P w = .ok i.toNat w := by
  simp [Instr.sliceBound, asIntOf, h0, h1]

theorem opt_bound (hT : RelT g w d t a.tmps) {ty : TypeId} {dflt top : Nat} {z : Option Operand} {n : Nat} (h : boundD dflt top (z.map (opnd P ty t)) = some n) :
    (z = none ∧ n = dflt) ∨ ∃ y k i, z = some y ∧ a.eval y = .int k i ∧ 0 ≤ i ∧ i ≤ top ∧ n = i.toNat := by
  cases z with
  | none => simp [boundD] at h; exact .inl ⟨rfl, h.symm⟩
  | some y =>
    simp only [Option.map_some] at h
    obtain ⟨k, i, hy, h0, h1, h2⟩ := boundD_some h
    have h3 := opnd_rel (P := P) hT ty y
    rw [hy] at h3
    exact .inr ⟨y, k, i, rfl, relP_sc h3, h0, h1, h2⟩

/-- x[lo:hi] in the model: the bounds. -/
theorem run_bounds (hT : RelT g w d t a.tmps) {ty : TypeId} {isS : Bool} {len cap : Nat} (hlc : len ≤ cap) {lo hi : Option Operand} {H L : Nat}
    (hh : boundD len len (hi.map (opnd P ty t)) = some H) (hl : boundD 0 H (lo.map (opnd P ty t)) = some L) :
    (Instr.sliceBounds isS len cap (lo.map a.eval) (hi.map a.eval) none).run P w = .ok (L, H, cap) w ∧ L ≤ H ∧ H ≤ len := by
  have h1 := opt_bound hT hh
  have h2 := opt_bound hT hl
  rcases h1 with ⟨rfl, rfl⟩ | ⟨y, k, i, rfl, e1, i0, i1, rfl⟩ <;> rcases h2 with ⟨rfl, rfl⟩ | ⟨z, k', j, rfl, e2, j0, j1, rfl⟩
  · simp [Instr.sliceBounds]
  · simp [Instr.sliceBounds, e2, run_sliceBound k' j _ _ j0 j1]; omega
  · simp [Instr.sliceBounds, e1, run_sliceBound k i cap _ i0 (by omega)]; omega
  · refine ⟨?_, by omega, by omega⟩
    simp [Instr.sliceBounds, e1, e2, run_sliceBound k i cap _ i0 (by omega), run_sliceBound k' j _ _ j0 j1]

theorem run_bounds3 (hT : RelT g w d t a.tmps) {ty : TypeId} {isS : Bool} {len cap : Nat} (hlc : len ≤ cap) {lo : Option Operand} {hi mx : Operand} {M H L : Nat}
    (hm : boundD 0 len (some (opnd P ty t mx)) = some M) (hh : boundD 0 M (some (opnd P ty t hi)) = some H) (hl : boundD 0 H (lo.map (opnd P ty t)) = some L) :
    (Instr.sliceBounds isS len cap (lo.map a.eval) (some (a.eval hi)) (some (a.eval mx))).run P w = .ok (L, H, M) w ∧ L ≤ H ∧ H ≤ M ∧ M ≤ len := by
  obtain ⟨k, i, e1, i0, i1, rfl⟩ := boundD_some hm
  obtain ⟨k', j, e2, j0, j1, rfl⟩ := boundD_some hh
  have h3 := opnd_rel (P := P) hT ty mx
  rw [e1] at h3
  have f1 := relP_sc h3
  have h4 := opnd_rel (P := P) hT ty hi
  rw [e2] at h4
  have f2 := relP_sc h4
  have h2 := opt_bound hT hl
  rcases h2 with ⟨rfl, rfl⟩ | ⟨z, k', q, rfl, e3, q0, q1, rfl⟩
  · refine ⟨?_, by omega, by omega, by omega⟩
    simp [Instr.sliceBounds, f1, f2, run_sliceBound k i cap _ i0 (by omega), run_sliceBound _ j _ _ j0 j1]
  · refine ⟨?_, by omega, by omega, by omega⟩
    simp [Instr.sliceBounds, f1, f2, e3, run_sliceBound k i cap _ i0 (by omega), run_sliceBound _ j _ _ j0 j1, run_sliceBound _ q _ _ q0 q1]

theorem list_cap {own : Bool} {es : Nat} {l : List (List DV)} {v : Value} (h : RelV g (.list own es l) v) : ∃ ad cap, v = .slice ad l.length cap ∧ l.length ≤ cap := by
  cases h with
  | empty => exact ⟨_, _, rfl, Nat.zero_le _⟩
  | list h1 => exact ⟨_, _, rfl, h1⟩

/-- A part of a list. -/
theorem sub_rel {own own' : Bool} {es : Nat} {l : List (List DV)} {ad : Option Addr} {cap L H M : Nat} (h : RelV g (.list own es l) (.slice ad l.length cap)) (h1 : L ≤ H) (h2 : H ≤ l.length) (h3 : H ≤ M) :
    RelV g (.list own' es ((l.take H).drop L)) (.slice (if M = L then ad else ad.map (·.add (L * es))) (H - L) (M - L)) := by
  have hlen : ((l.take H).drop L).length = H - L := by simp; omega
  by_cases h0 : H = L
  · subst h0
    have : (l.take H).drop H = [] := List.eq_nil_of_length_eq_zero (by rw [hlen]; omega)
    rw [this, Nat.sub_self]
    exact .empty
  · have hne : ¬ M = L := by omega
    rw [if_neg hne]
    cases h with
    | empty => simp at h2; omega
    | list g1 g2 g3 g4 g5 =>
      rename_i b off vs
      have hr : RelL g l.flatten vs := ⟨g3, g4⟩
      have hsub := (hr.take (H * es)).drop (L * es)
      rw [← flatten_take g2, ← flatten_drop (fun x hx => g2 x (List.mem_of_mem_take hx))] at hsub
      simp only [Option.map_some, add_spot]
      have := RelV.list (g := g) (own := own') (es := es) (l := (l.take H).drop L) (cap := M - L) (b := b) (off := off + L * es) (vs := (vs.take (H * es)).drop (L * es))
        (by rw [hlen]; omega) (fun x hx => g2 x (List.mem_of_mem_take (List.mem_of_mem_drop hx))) hsub.len hsub.at_ (fun k v hv => by
          rw [List.getElem?_drop, List.getElem?_take] at hv
          split at hv
          · rw [Nat.add_assoc]; exact g5 _ _ hv
          · cases hv)
      rw [hlen] at this
      exact this

theorem vec_cap {j es off n : Nat} {v : Value} (h : RelV g (.vec j es off n) v) : ∃ ad cap, v = .slice ad n cap ∧ n ≤ cap := by
  cases h with
  | vec0 => exact ⟨_, _, rfl, Nat.zero_le _⟩
  | vec h1 h2 => exact ⟨_, _, rfl, h2⟩
/-- A part of a row that is written in place. -/
theorem sub_vec {j es off n : Nat} {ad : Option Addr} {cap L H M : Nat} (h : RelV g (.vec j es off n) (.slice ad n cap)) (h1 : L ≤ H) (h2 : H ≤ n) (h3 : H ≤ M) (h4 : M ≤ cap) :
    RelV g (.vec j es (off + L) (H - L)) (.slice (if M = L then ad else ad.map (·.add (L * es))) (H - L) (M - L)) := by
  by_cases h0 : M = L
  · subst h0
    have : H - M = 0 := by omega
    rw [this, Nat.sub_self]
    exact .vec0
  · rw [if_neg h0]
    cases h with
    | vec0 => omega
    | vec g1 g2 g3 =>
      simp only [Option.map_some, add_spot, ← Nat.add_mul]
      refine .vec g1 (by omega) (Nat.le_trans (Nat.mul_le_mul_right _ ?_) g3)
      omega

theorem calm_slice (hT : RelT g w d t a.tmps) (hW : WInv g h w) {ty : TypeId} {y : Operand} {lo hi mx : Option Operand} (ho : o.op = .slice ty y lo hi mx) {r : DV}
    (hx : sliceD P ty (opnd P ty t y) (lo.map (opnd P o.type t)) (hi.map (opnd P o.type t)) (mx.map (opnd P o.type t)) = some r)
    (hr : x = onlyIf mx.isSome r) : CalmOut P o a g w h d t x := by
  have h1 := opnd_rel (P := P) hT ty y
  generalize opnd P ty t y = p at h1 hx
  unfold sliceD at hx
  split at hx
  · rename_i s hu hmx
    have e1 := relP_sc h1
    have hmn : mx = none := by cases mx with | none => rfl | some _ => cases hmx
    subst hmn
    split at hx
    · rename_i H hH
      split at hx
      · rename_i L hL
        cases hx
        obtain ⟨hb, hb1, hb2⟩ := run_bounds (isS := false) (a := a) hT (Nat.le_refl _) hH hL
        subst hr
        refine calm_here hW (v := .string (s.extract L H)) ?_ (RelV.sc _).relP rfl
        simp [execOp, ho, e1, Instr.sliceAt, Instr.slice, run_underlying hu, hb]
      · cases hx
    · cases hx
  · rename_i e own es l hu hmx
    have hmn : mx = none := by cases mx with | none => rfl | some _ => cases hmx
    subst hmn
    split at hx
    · rename_i H hH
      split at hx
      · rename_i L hL
        split at hx
        · rename_i hes
          cases hx
          have hrel : RelV g (.list own es l) (a.eval y) := h1
          obtain ⟨ad, cap, hv, hc⟩ := list_cap hrel
          rw [hv] at hrel
          obtain ⟨hb, hb1, hb2⟩ := run_bounds (isS := true) (a := a) hT hc hH hL
          subst hr
          refine calm_here hW (v := .slice (if cap = L then ad else ad.map (·.add (L * es))) (H - L) (cap - L)) ?_ (sub_rel hrel hb1 hb2 (by omega)).relP (by simp [DV.shed, onlyIf])
          simp [execOp, ho, hv, Instr.sliceAt, Instr.slice, run_underlying hu, hb, sz_run hes.2, hes.1]
        · cases hx
      · cases hx
    · cases hx
  · rename_i e own es l m hu hmx
    obtain ⟨mo, rfl, rfl⟩ : ∃ mo, mx = some mo ∧ m = opnd P o.type t mo := by
      cases mx with
      | none => cases hmx
      | some mo => simp at hmx; exact ⟨mo, rfl, hmx.symm⟩
    split at hx
    · rename_i M hi' hM hhi
      obtain ⟨hio, rfl, rfl⟩ : ∃ hio, hi = some hio ∧ hi' = opnd P o.type t hio := by
        cases hi with
        | none => cases hhi
        | some hio => simp at hhi; exact ⟨hio, rfl, hhi.symm⟩
      split at hx
      · rename_i H hH
        split at hx
        · rename_i L hL
          split at hx
          · rename_i hes
            cases hx
            have hrel : RelV g (.list own es l) (a.eval y) := h1
            obtain ⟨ad, cap, hv, hc⟩ := list_cap hrel
            rw [hv] at hrel
            obtain ⟨hb, hb1, hb2, hb3⟩ := run_bounds3 (isS := true) (a := a) hT hc hM hH hL
            subst hr
            refine ⟨g, w, .slice (if M = L then ad else ad.map (·.add (L * es))) (H - L) (M - L), ?_, .refl _ _ _, hW, (sub_rel hrel hb1 (by omega) hb2).relP, ?_⟩
            · simp only [execOp, ho, Option.map_some]
              simp [hv, Instr.sliceAt, Instr.slice, run_underlying hu, hb, sz_run hes.2, hes.1]
            · intro p
              simp only [Option.isSome_some, Bool.and_true, onlyIf]
              by_cases hMH : M = H
              · intro es' l' a' cap' o1 o2 hlt
                simp only [hMH, decide_true, own1, Option.some.injEq, Prod.mk.injEq] at o1
                obtain ⟨rfl, rfl⟩ := o1
                simp only [hdr1, Option.some.injEq, Prod.mk.injEq] at o2
                obtain ⟨rfl, rfl⟩ := o2
                simp at hlt; omega
              · exact .none (by simp [hMH, own1])
          · cases hx
        · cases hx
      · cases hx
    · cases hx
  · rename_i e j es off n hu hmx
    have hmn : mx = none := by cases mx with | none => rfl | some _ => cases hmx
    subst hmn
    split at hx
    · rename_i H hH
      split at hx
      · rename_i L hL
        split at hx
        · rename_i hes
          cases hx
          have hrel : RelV g (.vec j es off n) (a.eval y) := h1
          obtain ⟨ad, cap, hv, hc⟩ := vec_cap hrel
          rw [hv] at hrel
          obtain ⟨hb, hb1, hb2⟩ := run_bounds (isS := true) (a := a) hT hc hH hL
          subst hr
          refine calm_here hW (v := .slice (if cap = L then ad else ad.map (·.add (L * es))) (H - L) (cap - L)) ?_ (sub_vec hrel hb1 hb2 (by omega) (Nat.le_refl _)).relP (by simp [DV.shed, onlyIf])
          simp [execOp, ho, hv, Instr.sliceAt, Instr.slice, run_underlying hu, hb, sz_run hes.2, hes.1]
        · cases hx
      · cases hx
    · cases hx
  · rename_i e j es off n m hu hmx
    obtain ⟨mo, rfl, rfl⟩ : ∃ mo, mx = some mo ∧ m = opnd P o.type t mo := by
      cases mx with
      | none => cases hmx
      | some mo => simp at hmx; exact ⟨mo, rfl, hmx.symm⟩
    split at hx
    · rename_i M hi' hM hhi
      obtain ⟨hio, rfl, rfl⟩ : ∃ hio, hi = some hio ∧ hi' = opnd P o.type t hio := by
        cases hi with
        | none => cases hhi
        | some hio => simp at hhi; exact ⟨hio, rfl, hhi.symm⟩
      split at hx
      · rename_i H hH
        split at hx
        · rename_i L hL
          split at hx
          · rename_i hes
            cases hx
            have hrel : RelV g (.vec j es off n) (a.eval y) := h1
            obtain ⟨ad, cap, hv, hc⟩ := vec_cap hrel
            rw [hv] at hrel
            obtain ⟨hb, hb1, hb2, hb3⟩ := run_bounds3 (isS := true) (a := a) hT hc hM hH hL
            subst hr
            have hsub := sub_vec hrel hb1 (by omega) hb2 (by omega)
            refine ⟨g, w, .slice (if M = L then ad else ad.map (·.add (L * es))) (H - L) (M - L), ?_, .refl _ _ _, hW, ?_, ?_⟩
            · simp only [execOp, ho, Option.map_some]
              simp [hv, Instr.sliceAt, Instr.slice, run_underlying hu, hb, sz_run hes.2, hes.1]
            · by_cases hML : M = L
              · rw [if_pos hML]
                have hHL : H - L = 0 := by omega
                rw [hHL]
                exact RelV.relP .empty
              · rw [if_neg hML] at hsub ⊢
                rw [if_neg hML]
                exact hsub.relP
            · intro p
              by_cases hML : M = L
              · rw [if_pos hML]
                intro es' l' a' cap' o1 o2 hlt
                simp only [onlyIf, own1, Option.isSome_some, Bool.and_true, Option.some.injEq, Prod.mk.injEq] at o1
                obtain ⟨rfl, rfl⟩ := o1
                simp only [hdr1, onlyIf, Option.some.injEq, Prod.mk.injEq] at o2
                obtain ⟨rfl, rfl⟩ := o2
                simp at hlt; omega
              · rw [if_neg hML]
                exact .none rfl
          · cases hx
        · cases hx
      · cases hx
    · cases hx
  · cases hx
end
end Go.DS

/-
  Building structs, arrays, slices; looking into maps; all calm operations together.
-/
namespace Go.DS
set_option linter.unusedSectionVars false
variable [M : Mono]
open Go
set_option linter.unusedVariables false

section
variable {P : Program} {o : Oper} {a : Act} {g : Gh} {w : World} {h : DHeap} {d : Nat} {t : List DV} {x : DV}

theorem fill_one (off : Nat) : ∀ (vs : List Value) (cells : List Value) (j : Nat), off + j + vs.length ≤ cells.length →
    ((vs.zipIdx j).foldl (fun (cs : Array Value) (p : Value × Nat) => cs.setIfInBounds (off + p.2) p.1) cells.toArray) = (cells.take (off + j) ++ vs ++ cells.drop (off + j + vs.length)).toArray
  | [], cells, j, hl => by simp
  | v :: vs, cells, j, hl => by
    simp only [List.length_cons] at hl
    have ih := fill_one off vs (cells.set (off + j) v) (j + 1) (by simp; omega)
    simp only [List.zipIdx_cons, List.foldl_cons, List.setIfInBounds_toArray]
    rw [ih]
    congr 1
    have hlt : off + j < cells.length := by omega
    have e1 : (cells.set (off + j) v).take (off + (j + 1)) = cells.take (off + j) ++ [v] := by
      rw [List.set_eq_take_append_cons_drop, if_pos hlt, List.take_append]
      have : (cells.take (off + j)).length = off + j := by simp; omega
      rw [this, List.take_of_length_le (by omega), show off + (j + 1) - (off + j) = 1 by omega]
      rfl
    have e2 : (cells.set (off + j) v).drop (off + (j + 1) + vs.length) = cells.drop (off + j + (vs.length + 1)) := by
      rw [List.drop_set_of_lt (by omega)]
      congr 1; omega
    rw [e1, e2]
    simp

theorem cells_fill (cells vs : List Value) (off : Nat) (hl : off + vs.length ≤ cells.length) :
    (vs.toArray.zipIdx.foldl (fun (cs : Array Value) (p : Value × Nat) => cs.setIfInBounds (off + p.2) p.1) cells.toArray) = (cells.take off ++ vs ++ cells.drop (off + vs.length)).toArray := by
  have := fill_one off vs cells 0 (by omega)
  rw [← Array.foldl_toList]
  simpa using this

/-- A value's cells. -/
theorem cells_rel {y : DV} {v : Value} (hr : RelV g y v) (hc : (cellsD y).all DV.cell = true) : RelL g (cellsD y) v.cells.toList ∧ ∀ u ∈ v.cells.toList, u.oneCell' = true := by
  have one : ∀ {e : DV} {u : Value}, RelV g e u → e.cell = true → u.oneCell' = true := by
    intro e u h1 h2
    cases h1 <;> first | (simp [DV.cell] at h2; done) | (simp [DV.cell] at h2; exact h2) | rfl
  by_cases hag : ∃ cs, y = .agg cs
  · obtain ⟨cs, rfl⟩ := hag
    obtain ⟨vs, rfl, hrel⟩ := agg_inv hr
    have h1 := hrel.map_drop DV.shed (fun _ _ => RelV.shed)
    refine ⟨by simpa [cellsD, Value.cells] using h1, fun u hu => ?_⟩
    simp only [Value.cells] at hu
    obtain ⟨k, hk, rfl⟩ := List.getElem_of_mem hu
    have hk' : k < (cs.map DV.shed).length := by rw [h1.len]; simpa using hk
    have h2 := h1.at_ k _ vs[k] (List.getElem?_eq_getElem hk') (List.getElem?_eq_getElem (by simpa using hk))
    simp only [cellsD, List.all_eq_true] at hc
    simpa using one h2 (hc _ (List.getElem_mem hk'))
  · have hcd : cellsD y = [y] := by cases y <;> first | rfl | exact (hag ⟨_, rfl⟩).elim
    rw [hcd] at hc ⊢
    simp at hc
    have h1 := one hr hc
    have hv : v.cells = #[v] := by cases v <;> first | rfl | (simp [Value.oneCell'] at h1)
    rw [hv]
    exact ⟨.cons hr (.nil g), by simpa using h1⟩

theorem all_plain_of_cell {y : DV} (hc : (cellsD y).all DV.cell = true) : y.plain = true := by
  cases y <;> simp [cellsD, DV.cell, DV.plain, DV.isBox, DV.isPath] at *

theorem build_rel (offs : Nat → Option (Nat × Nat)) : ∀ (ds : List (Nat × DV)) (vs : List (Nat × Value)) (cs : List DV) (us : List Value) (rs : List DV), buildD offs ds cs = some rs → RelL g cs us →
    ds.length = vs.length → (∀ (k : Nat) (p : Nat × DV) (q : Nat × Value), ds[k]? = some p → vs[k]? = some q → p.1 = q.1 ∧ RelP g t a.tmps p.2 q.2) →
    ∃ ws, Instr.fill offs us.toArray vs = some ws.toArray ∧ RelL g rs ws
  | [], [], cs, us, rs, hb, hr, _, _ => by simp [buildD] at hb; subst hb; exact ⟨us, rfl, hr⟩
  | [], _ :: _, cs, us, rs, hb, hr, hl, _ => by simp at hl
  | _ :: _, [], cs, us, rs, hb, hr, hl, _ => by simp at hl
  | (i, y) :: ds, (j, v) :: vs, cs, us, rs, hb, hr, hl, hp => by
    obtain ⟨h1, h2⟩ := hp 0 _ _ rfl rfl
    simp only at h1 h2
    subst h1
    simp only [buildD] at hb
    split at hb
    · rename_i off k ho
      split at hb
      · rename_i hc
        obtain ⟨c1, c2, c3⟩ := hc
        have hpl := all_plain_of_cell c3
        have h3 := h2.shed
        rw [RelP.of_plain hpl] at h3
        obtain ⟨h4, h5⟩ := cells_rel h3 c3
        have hk : v.cells.size = k := by rw [← c1, h4.len]; simp
        have hnew : RelL g (cs.take off ++ cellsD y.shed ++ cs.drop (off + k)) (us.take off ++ v.cells.toList ++ us.drop (off + k)) := ((hr.take off).append h4).append (hr.drop _)
        obtain ⟨ws, hw, hrel⟩ := build_rel offs ds vs _ _ rs hb hnew (by simpa using hl) (fun n p q hp' hq => hp (n + 1) p q (by simpa using hp') (by simpa using hq))
        refine ⟨ws, ?_, hrel⟩
        have hlen : off + v.cells.toList.length ≤ us.length := by rw [← hr.len]; simp [hk]; omega
        have := cells_fill us v.cells.toList off hlen
        simp only [Array.length_toList, hk, Array.toArray_toList] at this
        have hcond : ¬ (v.cells.size ≠ k ∨ off + v.cells.size > us.toArray.size) := by
          simp only [List.size_toArray, ← hr.len]; omega
        simp only [Instr.fill, ho]
        rw [if_neg (by simpa using hcond), this]
        exact hw
      · cases hb
    · cases hb

theorem run_size {ty : TypeId} (hi : (P.info? ty).isSome = true) : (sizeOf ty).run P w = .ok (sz P ty) w := by
  unfold sz
  cases h : P.info? ty with
  | none => simp [h] at hi
  | some i => simp [sizeOf, typeInfo, h]

theorem run_mapM_list {α β : Type} (f : α → Sem β) (r : α → β) : ∀ (l : List α), (∀ x ∈ l, (f x).run P w = .ok (r x) w) → (l.mapM f).run P w = .ok (l.map r) w
  | [], _ => rfl
  | x :: l, hf => by
    have h1 := hf x (List.mem_cons_self ..)
    have h2 := run_mapM_list f r l (fun y hy => hf y (List.mem_cons_of_mem _ hy))
    rw [List.mapM_cons, Sem.run_bind, h1, Result.andThen_ok, Sem.run_bind, h2, Result.andThen_ok]
    rfl

theorem run_mapM_arr {α β : Type} (f : α → Sem β) (r : α → β) (l : Array α) (hf : ∀ x ∈ l.toList, (f x).run P w = .ok (r x) w) : (l.mapM f).run P w = .ok (l.map r) w := by
  rw [Array.mapM_eq_mapM_toList, Sem.run_map, run_mapM_list f r l.toList hf, Result.andThen_ok]
  congr 1
  apply Array.ext'; simp

theorem zeroD_rel {ty : TypeId} {z : DV} (hz : zeroD P ty = some z) : ∃ v, (zeroValue ty).run P w = .ok v w ∧ RelV g z v ∧ z.isBox = false := by
  unfold zeroD at hz
  split at hz
  · rename_i i hi
    cases hv : i.zero with
    | none => simp [hv] at hz
    | some v =>
      simp [hv] at hz; subst hz
      have hr := cst_rel g P ty v
      refine ⟨v, by simp [zeroValue, typeInfo, hi, hv], hr, ?_⟩
      exact (RelV.relP (t := []) (tmps := #[]) hr).notBox
  · cases hz

theorem parts_rel (hT : RelT g w d t a.tmps) (ty : Nat → TypeId) (ps : Array (Nat × Operand)) : (ps.toList.map fun p => (p.1, opnd P (ty p.1) t p.2)).length = (ps.map fun p => (p.1, a.eval p.2)).toList.length ∧
    ∀ (k : Nat) (p : Nat × DV) (q : Nat × Value), (ps.toList.map fun p => (p.1, opnd P (ty p.1) t p.2))[k]? = some p → (ps.map fun p => (p.1, a.eval p.2)).toList[k]? = some q → p.1 = q.1 ∧ RelP g t a.tmps p.2 q.2 := by
  refine ⟨by simp, fun k p q hp hq => ?_⟩
  rw [List.getElem?_map] at hp
  rw [Array.toList_map, List.getElem?_map] at hq
  cases hk : ps.toList[k]? with
  | none => rw [hk] at hp; cases hp
  | some r =>
    rw [hk] at hp hq
    cases hp; cases hq
    exact ⟨rfl, opnd_rel hT _ _⟩

theorem calm_build_struct (hT : RelT g w d t a.tmps) (hW : WInv g h w) {ty : TypeId} {ps : Array (Nat × Operand)} (ho : o.op = .build ty ps) {fs : Array Field} (hu : P.underlying ty = some (.struct fs))
    {z rs : List DV} (hz : zeroD P ty = some (.agg z)) (hi : fs.toList.all (fun f => (P.info? f.type).isSome) = true)
    (hb : buildD (fun i => (fs[i]?).map fun f => (f.offset, sz P f.type)) (ps.toList.map fun p => (p.1, opnd P (match fs[p.1]? with | some f => f.type | none => 0) t p.2)) (z.map DV.shed) = some rs) :
    CalmOut P o a g w h d t (.agg rs) := by
  obtain ⟨v, hv, hr, _⟩ := zeroD_rel (g := g) (w := w) hz
  obtain ⟨us, rfl, hrel⟩ := agg_inv hr
  obtain ⟨p1, p2⟩ := parts_rel (P := P) hT (fun i => match fs[i]? with | some f => f.type | none => 0) ps
  obtain ⟨ws, hf, hw⟩ := build_rel (a := a) (t := t) _ _ (ps.map fun p => (p.1, a.eval p.2)).toList _ us rs hb (hrel.map_drop DV.shed (fun _ _ => RelV.shed)) p1 p2
  refine calm_here hW (v := .agg ws.toArray) ?_ (RelV.agg hw.len hw.at_).relP rfl
  have hpl' : (fs.mapM (m := Sem) fun f => do pure (f.offset, ← sizeOf f.type)).run P w = .ok (fs.map fun f => (f.offset, sz P f.type)) w := by
    refine run_mapM_arr _ _ fs (fun f hf => ?_)
    have := List.all_eq_true.1 hi f hf
    simp [run_size this]
  simp only [execOp, ho, Instr.build, Sem.run_bind, hv, Result.andThen_ok, run_underlying hu, hpl', Value.cells]
  have e1 : (fun (i : Nat) => (Array.map (fun f => (f.offset, sz P f.type)) fs)[i]?) = fun i => (fs[i]?).map fun f => (f.offset, sz P f.type) := by
    funext i; simp
  have e2 : (ps.map fun (x : Nat × Operand) => match x with | (i, x) => (i, a.eval x)) = ps.map fun p => (p.1, a.eval p.2) := rfl
  rw [e1, e2, hf]
  simp

theorem mixZ_rel {g : Gh} (offs : List Nat) : ∀ (i : Nat) (ds : List DV) (vs : List Value), RelL g ds vs → RelL g (mixZ offs i ds vs) vs
  | i, [], vs, h => by rw [h.nil_inv]; exact .nil g
  | i, d :: ds, vs, h => by
    obtain ⟨v, us, rfl, hv, hr⟩ := h.cons_inv
    unfold mixZ
    refine .cons ?_ (mixZ_rel offs (i + 1) ds us hr)
    split
    · exact .sc v
    · exact hv.shed
theorem zeroR_rel {g : Gh} {offs : List Nat} {ty : TypeId} {z : List DV} (hz : zeroR P offs ty = some z) : ∃ us : List Value, (∀ w, (zeroValue ty).run P w = .ok (.agg us.toArray) w) ∧ RelL g z us := by
  unfold zeroR at hz
  split at hz
  · rename_i i hi
    split at hz
    · rename_i vs hv
      split at hz
      · rename_i ds hd
        cases hz
        refine ⟨vs.toList, fun w => ?_, mixZ_rel offs 0 ds vs.toList ?_⟩
        · simp [zeroValue, Sem.run_bind, typeInfo, Sem.run, hi, hv]
        · have h := cst_rel g P ty (.agg vs)
          rw [hd] at h
          obtain ⟨us, h1, h2⟩ := agg_inv h
          have : us = vs.toList := by cases h1; simp
          rw [← this]; exact h2
      · cases hz
    · cases hz
  · cases hz
theorem calm_build_raw (hT : RelT g w d t a.tmps) (hW : WInv g h w) {offs : List Nat} {ty : TypeId} {ps : Array (Nat × Operand)} (ho : o.op = .build ty ps) (hx : buildR P offs t ty ps = some x) : CalmOut P o a g w h d t x := by
  unfold buildR at hx
  split at hx
  · rename_i z fs hz hu
    split at hx
    · cases hx
    · rename_i hall
      have hi : fs.toList.all (fun f => (P.info? f.type).isSome) = true := by
        cases e : fs.toList.all (fun f => (P.info? f.type).isSome)
        · exact (hall e).elim
        · rfl
      cases hb : buildD (fun i => (fs[i]?).map fun f => (f.offset, sz P f.type)) (ps.toList.map fun p => (p.1, opnd P (fty fs p.1) t p.2)) z with
      | none => rw [hb] at hx; cases hx
      | some rs =>
        rw [hb] at hx
        cases hx
        obtain ⟨us, hv, hrel⟩ := zeroR_rel (g := g) hz
        obtain ⟨p1, p2⟩ := parts_rel (P := P) hT (fty fs) ps
        obtain ⟨ws, hf, hw⟩ := build_rel (a := a) (t := t) _ _ (ps.map fun p => (p.1, a.eval p.2)).toList _ us rs hb hrel p1 p2
        refine calm_here hW (v := .agg ws.toArray) ?_ (RelV.agg hw.len hw.at_).relP rfl
        have hpl' : (fs.mapM (m := Sem) fun f => do pure (f.offset, ← sizeOf f.type)).run P w = .ok (fs.map fun f => (f.offset, sz P f.type)) w := by
          refine run_mapM_arr _ _ fs (fun f hf => ?_)
          have := List.all_eq_true.1 hi f hf
          simp [run_size this]
        simp only [execOp, ho, Instr.build, Sem.run_bind, hv, Result.andThen_ok, run_underlying hu, hpl', Value.cells]
        have e1 : (fun (i : Nat) => (Array.map (fun f => (f.offset, sz P f.type)) fs)[i]?) = fun i => (fs[i]?).map fun f => (f.offset, sz P f.type) := by
          funext i; simp
        have e2 : (ps.map fun (x : Nat × Operand) => match x with | (i, x) => (i, a.eval x)) = ps.map fun p => (p.1, a.eval p.2) := rfl
        rw [e1, e2, hf]
        simp
  · cases hx

theorem calm_build_array (hT : RelT g w d t a.tmps) (hW : WInv g h w) {ty e : TypeId} {n : Nat} {ps : Array (Nat × Operand)} (ho : o.op = .build ty ps) (hu : P.underlying ty = some (.array n e))
    {z rs : List DV} (hz : zeroD P ty = some (.agg z)) (hi : (P.info? e).isSome = true)
    (hb : buildD (fun i => some (i * sz P e, sz P e)) (ps.toList.map fun p => (p.1, opnd P e t p.2)) (z.map DV.shed) = some rs) :
    CalmOut P o a g w h d t (.agg rs) := by
  obtain ⟨v, hv, hr, _⟩ := zeroD_rel (g := g) (w := w) hz
  obtain ⟨us, rfl, hrel⟩ := agg_inv hr
  obtain ⟨p1, p2⟩ := parts_rel (P := P) hT (fun i => e) ps
  obtain ⟨ws, hf, hw⟩ := build_rel (a := a) (t := t) _ _ (ps.map fun p => (p.1, a.eval p.2)).toList _ us rs hb (hrel.map_drop DV.shed (fun _ _ => RelV.shed)) p1 p2
  refine calm_here hW (v := .agg ws.toArray) ?_ (RelV.agg hw.len hw.at_).relP rfl
  have e2 : (ps.map fun (x : Nat × Operand) => match x with | (i, x) => (i, a.eval x)) = ps.map fun p => (p.1, a.eval p.2) := rfl
  simp only [execOp, ho, Instr.build, Sem.run_bind, hv, Result.andThen_ok, run_underlying hu, run_size hi, Value.cells]
  rw [e2, hf]
  simp

/-- A new block of cells, the first n of which are never written again. -/
def Gh.prot (g : Gh) (b : Nat) (cells : List Value) (k : Kind) (h1 : ∀ u ∈ cells, u.oneCell' = true) : Gh :=
  { g with
    pc := fun c o => if c = b then cells[o]? else g.pc c o
    kind := fun c => if c = b then k else g.kind c
    one := fun c o v hv => by
      by_cases hc : c = b
      · rw [if_pos hc] at hv; exact h1 v (List.mem_of_getElem? hv)
      · rw [if_neg hc] at hv; exact g.one c o v hv }

theorem relL_one {ds : List DV} {vs : List Value} (hr : RelL g ds vs) (hc : ds.all DV.cell = true) : ∀ u ∈ vs, u.oneCell' = true := by
  intro u hu
  obtain ⟨k, hk, rfl⟩ := List.getElem_of_mem hu
  have hk' : k < ds.length := hr.len ▸ hk
  have h1 := hr.at_ k _ _ (List.getElem?_eq_getElem hk') (List.getElem?_eq_getElem hk)
  have h2 := List.all_eq_true.1 hc _ (List.getElem_mem hk')
  generalize ds[k] = e at h1 h2
  generalize vs[k] = u at h1
  cases h1 <;> first | (simp [DV.cell] at h2; done) | (simp [DV.cell] at h2; exact h2) | rfl


theorem touch_new (hpc : ∀ b o v, g.pc b o = some v → w.cell? ⟨b, o, none⟩ = some v) (prot rest : List Value) (e : TypeId) (k : Kind) (h1 : ∀ u ∈ prot, u.oneCell' = true) :
    Touch w.heap.size g (g.prot w.heap.size prot k h1) w (w.alloc (.cells (prot ++ rest).toArray e)) where
  heap c hc hl := by
    show (w.heap.push _)[c]? = _
    rw [Array.getElem?_push, if_neg (by omega)]
  pcb o v hv := by
    have := lt_of_cell (hpc _ _ _ hv)
    omega
  pcx c hc := by funext o; simp [Gh.prot, hc]
  pcw o v hv := by
    simp only [Gh.prot, if_true] at hv
    show (match (w.heap.push _)[w.heap.size]? with | some (.cells c _ _) => _ | _ => _) = _
    simp only [Array.getElem?_push, if_true]
    have hl : o < prot.length := (List.getElem?_eq_some_iff.1 hv).1
    have := (List.getElem?_eq_some_iff.1 hv).2
    simp [List.getElem?_append, hl, this]
  kind c hc := by simp [Gh.prot, hc]
  n := Nat.le_refl _
  η _ _ := rfl
  sz _ _ := rfl
  size := by show _ ≤ (w.heap.push _).size; simp
  os := rfl
  tape := rfl
  output := rfl
  drawn _ := Nat.le_refl _

theorem new_list {own : Bool} {es : Nat} {rows : List (List DV)} {vs : List Value} {k : Kind} {cap : Nat} {h1 : ∀ u ∈ vs, u.oneCell' = true} (hle : Gh.Le g (g.prot w.heap.size vs k h1)) (hr : RelL g rows.flatten vs) (hes : ∀ r ∈ rows, r.length = es) (hc : rows.length ≤ cap) :
    RelV (g.prot w.heap.size vs k h1) (.list own es rows) (.slice (some ⟨w.heap.size, 0, none⟩) rows.length cap) :=
  have hr' := hr.mono hle
  .list hc hes hr'.len hr'.at_ (fun j v hv => by simp [Gh.prot, hv])

theorem rows_fill {es : Nat} (hT : RelT g w d t a.tmps) (e : TypeId) : ∀ (ps : List (Nat × Operand)) (k : Nat) (done : List DV) (dv us : List Value), (ps.map (·.1) = (List.range' k ps.length)) →
    (ps.map fun p => cellsD (opnd P e t p.2).shed).all (fun r => r.length == es && r.all DV.cell) = true → RelL g done dv → done.length = k * es → us.length = ps.length * es →
    ∃ ws, Instr.fill (fun i => some (i * es, es)) (dv ++ us).toArray (ps.map fun p => (p.1, a.eval p.2)) = some ws.toArray ∧ RelL g (done ++ (ps.map fun p => cellsD (opnd P e t p.2).shed).flatten) ws
  | [], k, done, dv, us, hk, hall, hr, hd, hu => by
    have : us = [] := List.eq_nil_of_length_eq_zero (by simpa using hu)
    subst this
    exact ⟨dv, by simp [Instr.fill], by simpa using hr⟩
  | p :: ps, k, done, dv, us, hk, hall, hr, hd, hu => by
    simp only [List.map_cons, List.length_cons, List.range'_succ, List.cons.injEq] at hk
    simp only [List.map_cons, List.all_cons, Bool.and_eq_true, beq_iff_eq] at hall
    obtain ⟨⟨h1, h2⟩, h3⟩ := hall
    have hpl := all_plain_of_cell h2
    have h4 := (opnd_rel (P := P) hT e p.2).shed
    rw [RelP.of_plain hpl] at h4
    obtain ⟨h5, h6⟩ := cells_rel h4 h2
    have hsz : (a.eval p.2).cells.size = es := by rw [← h1, h5.len]; simp
    have hdl : dv.length = k * es := by rw [← hr.len]; exact hd
    have hul : us.length = ps.length * es + es := by rw [hu, List.length_cons, Nat.succ_mul]
    obtain ⟨ws, hw, hrel⟩ := rows_fill hT e ps (k + 1) (done ++ cellsD (opnd P e t p.2).shed) (dv ++ (a.eval p.2).cells.toList) (us.drop es) hk.2 h3 (hr.append h5)
      (by rw [List.length_append, hd, h1, Nat.succ_mul]) (by simp; omega)
    refine ⟨ws, ?_, by simpa [List.append_assoc] using hrel⟩
    have hcf := cells_fill (dv ++ us) (a.eval p.2).cells.toList (k * es) (by simp [hsz]; omega)
    simp only [Array.length_toList, hsz, Array.toArray_toList] at hcf
    have hcond : ¬ (((a.eval p.2).cells.size ≠ es || decide (p.1 * es + (a.eval p.2).cells.size > (dv ++ us).toArray.size)) = true) := by
      simp [hsz, hk.1]; omega
    simp only [List.map_cons, Instr.fill]
    rw [if_neg (by simpa using hcond), hk.1, hcf]
    have e1 : (dv ++ us).take (k * es) = dv := by rw [← hdl]; simp
    have e2 : (dv ++ us).drop (k * es + es) = us.drop es := by rw [← hdl, List.drop_append, List.drop_eq_nil_of_le (by omega)]; simp
    rw [e1, e2]
    exact hw

theorem calm_buildSlice (hT : RelT g w d t a.tmps) (hW : WInv g h w) {ty e : TypeId} {n : Nat} {ps : Array (Nat × Operand)} (ho : o.op = .buildSlice ty n ps) (he : elemOfSlice P ty = some e)
    (h1 : ps.toList.map (·.1) = List.range n) (h2 : 0 < sz P e) (h3 : n * sz P e ≤ 65536) (h4 : (zeroD P e).isSome = true)
    (h5 : (ps.toList.map fun p => cellsD (opnd P e t p.2).shed).all (fun r => r.length == sz P e && r.all DV.cell) = true) :
    CalmOut P o a g w h d t (.list true (sz P e) (ps.toList.map fun p => cellsD (opnd P e t p.2).shed)) := by
  have hu : P.underlying ty = some (.slice e) := by
    unfold elemOfSlice at he; split at he
    · cases he; assumption
    · cases he
  have hlen : ps.toList.length = n := by have := congrArg List.length h1; simpa using this
  obtain ⟨z, hz⟩ := Option.isSome_iff_exists.1 h4
  obtain ⟨zv, hzv, _, _⟩ := zeroD_rel (g := g) (w := w) hz
  let zeros : List Value := ((Array.range (n * sz P e)).map ((if n * sz P e = 0 then #[] else zv.cells)[· % (if n * sz P e = 0 then #[] else zv.cells).size]!)).toList
  have hzl : zeros.length = ps.toList.length * sz P e := by simp [zeros]; rw [← hlen]; simp
  obtain ⟨ws, hw, hrel⟩ := rows_fill (P := P) (a := a) hT e ps.toList 0 [] [] zeros (by rw [h1, hlen, List.range_eq_range']) h5 (RelL.nil g) (by simp) hzl
  simp only [List.nil_append] at hw hrel
  have hes : ∀ r ∈ (ps.toList.map fun p => cellsD (opnd P e t p.2).shed), r.length = sz P e := fun r hr => by
    have := List.all_eq_true.1 h5 r hr
    simp at this; exact this.1
  have hone : ∀ u ∈ ws, u.oneCell' = true := relL_one hrel (by
    rw [List.all_eq_true]
    intro c hc
    rw [List.mem_flatten] at hc
    obtain ⟨r, hr, hcr⟩ := hc
    have := List.all_eq_true.1 h5 r hr
    simp only [Bool.and_eq_true] at this
    exact List.all_eq_true.1 this.2 c hcr)
  have htouch := touch_new (g := g) hW.pc ws [] e .data hone
  rw [List.append_nil] at htouch
  have hrow := new_list (own := true) (cap := n) htouch.le hrel hes (by simp [← hlen])
  have hl2 : (ps.toList.map fun p => cellsD (opnd P e t p.2).shed).length = n := by simp [← hlen]
  rw [hl2] at hrow
  refine ⟨_, _, .slice (some ⟨w.heap.size, 0, none⟩) n n, ?_, htouch.ext (.inl (Nat.le_refl _)), htouch.winv rfl (.inl (Nat.le_refl _)) hW, hrow.relP, ?_⟩
  · have hsz : (sizeOf e).run P w = .ok (sz P e) w := sz_run (by omega) w
    have hzr : (if n * sz P e = 0 then pure #[] else (do pure (← zeroValue e).cells : Sem (Array Value))).run P w = .ok (if n * sz P e = 0 then #[] else zv.cells) w := by
      split <;> simp [hzv]
    have e2 : (ps.map fun (x : Nat × Operand) => match x with | (i, x) => (i, a.eval x)).toList = ps.toList.map fun p => (p.1, a.eval p.2) := by simp
    have hlim : ¬ (n * sz P e > 2 ^ 24) := by omega
    have hz2 : zeros.toArray = (Array.range (n * sz P e)).map ((if n * sz P e = 0 then #[] else zv.cells)[· % (if n * sz P e = 0 then #[] else zv.cells).size]!) := by
      simp only [zeros, Array.toArray_toList]
    rw [hz2] at hw
    simp only [execOp, ho, Instr.buildSlice, Sem.run_bind, run_underlying hu, Result.andThen_ok, hsz]
    rw [if_neg hlim]
    by_cases hn0 : n * sz P e = 0
    · rw [if_pos hn0]
      rw [if_pos hn0] at hw
      simp only [Sem.run_bind, Sem.run_pure, Result.andThen_ok]
      rw [e2, hw]
      simp [newRow]
    · rw [if_neg hn0]
      rw [if_neg hn0] at hw
      simp only [Sem.run_bind, hzv, Sem.run_pure, Result.andThen_ok]
      rw [e2, hw]
      simp [newRow]
  · intro p
    intro es' l' a' cap' o1 o2 hlt
    cases o1
    cases o2
    rw [hl2] at hlt
    omega
end
end Go.DS

/-
  Looking into maps; all calm operations together.
-/
namespace Go.DS
set_option linter.unusedSectionVars false
variable [M : Mono]
open Go
set_option linter.unusedVariables false

section
variable {P : Program} {o : Oper} {a : Act} {g : Gh} {w : World} {h : DHeap} {d : Nat} {t : List DV} {x : DV}

/-- What a key is in the model. -/
structure KeyAt (P : Program) (kt : TypeId) (ks : List Nat) (k : DV) (v : Value) (q : Bool) (xs : List Value) : Prop where
  val : v = valOf q xs
  eq : ∀ k' r, eqKey ks k k' = some r → ∀ g v', RelV g k' v' → ∃ ys, v' = valOf q ys ∧ eqV ks xs ys = some r

theorem keyAt {kt : TypeId} {ks : List Nat} {k : DV} {v : Value} (hk : flatK P 8 kt = some ks) (ho : keyOK P kt k = true) (hr : RelV g k v) :
    ∃ q xs, tinfo P kt = some (q, ks.length) ∧ xs.length = ks.length ∧ KeyAt P kt ks k v q xs := by
  obtain ⟨q, hq, hq1⟩ := flatK_tinfo hk
  unfold keyOK at ho
  rw [hq] at ho
  cases q <;> cases k <;> simp at ho
  · rename_i u
    cases hr
    refine ⟨false, [v], hq, (hq1 rfl).symm, rfl, fun k' r he g v' hr' => ?_⟩
    cases k' <;> simp only [eqKey] at he <;> try (cases he)
    cases hr'
    exact ⟨[v'], rfl, he⟩
  · rename_i cs
    obtain ⟨us, rfl, hrel⟩ := agg_inv hr
    split at ho
    · rename_i xs hs
      have hx := scs_rel hs hrel
      subst hx
      refine ⟨true, us, hq, by simpa using ho, rfl, fun k' r he g v' hr' => ?_⟩
      cases k' <;> simp only [eqKey, eqs, hs] at he <;> try (cases he)
      rename_i cs'
      obtain ⟨us', rfl, hrel'⟩ := agg_inv hr'
      split at he
      · rename_i x y hx hy
        cases hx
        have := scs_rel hy hrel'
        subst this
        exact ⟨us', rfl, he⟩
      · cases he
    · cases ho

theorem key_eq {kt : TypeId} {ks : List Nat} {k k' : DV} {v v' : Value} {r : Bool} (hk : flatK P 8 kt = some ks) (ho : keyOK P kt k = true) (hr : RelV g k v) (hr' : RelV g k' v') (he : eqKey ks k k' = some r)
    (D : Nat) (hD : 8 ≤ D) : (Op.equalIn D kt v v').run P w = .ok r w := by
  obtain ⟨q, xs, hq, _, hka⟩ := keyAt (P := P) hk ho hr
  obtain ⟨ys, hy, hev⟩ := hka.eq k' r he g v' hr'
  rw [hka.val, hy]
  exact flatK_run 8 kt ks q xs ys r D hk hq hD hev

def FirstAt (ks : List Nat) (k : DV) (es : List (DV × DV)) (i : Nat) : Prop :=
  (∃ e, es[i]? = some e ∧ eqKey ks k e.1 = some true) ∧ ∀ (j : Nat) (e : DV × DV), j < i → es[j]? = some e → eqKey ks k e.1 = some false
def NoneAt (ks : List Nat) (k : DV) (es : List (DV × DV)) : Prop := ∀ (j : Nat) (e : DV × DV), es[j]? = some e → eqKey ks k e.1 = some false

theorem FirstAt.succ {ks : List Nat} {k : DV} {es : List (DV × DV)} {i : Nat} {e : DV × DV} (h0 : eqKey ks k e.1 = some false) (hf : FirstAt ks k es i) : FirstAt ks k (e :: es) (i + 1) := by
  obtain ⟨⟨e', h1, h2⟩, h3⟩ := hf
  refine ⟨⟨e', by simpa using h1, h2⟩, fun j e'' hj he => ?_⟩
  cases j with
  | zero => simp at he; subst he; exact h0
  | succ j => exact h3 j e'' (by omega) (by simpa using he)

theorem NoneAt.cons {ks : List Nat} {k : DV} {es : List (DV × DV)} {e : DV × DV} (h0 : eqKey ks k e.1 = some false) (hf : NoneAt ks k es) : NoneAt ks k (e :: es) := fun j e' he => by
  cases j with
  | zero => simp at he; subst he; exact h0
  | succ j => exact hf j e' (by simpa using he)

theorem findD_spec {ks : List Nat} {k : DV} : ∀ {es : List (DV × DV)} {r : Option DV}, findD ks k es = some r →
    (∃ (i : Nat) (e : DV × DV), FirstAt ks k es i ∧ es[i]? = some e ∧ r = some e.2) ∨ (NoneAt ks k es ∧ r = none)
  | [], r, hf => by simp [findD] at hf; exact .inr ⟨fun j e he => by simp at he, hf.symm⟩
  | e :: es, r, hf => by
    simp only [findD] at hf
    split at hf
    · rename_i he; cases hf
      exact .inl ⟨0, e, ⟨⟨e, rfl, he⟩, fun j e' hj => by omega⟩, rfl, rfl⟩
    · rename_i he
      rcases findD_spec hf with ⟨i, e', h1, h2, h3⟩ | ⟨h1, h2⟩
      · exact .inl ⟨i + 1, e', h1.succ he, by simpa using h2, h3⟩
      · exact .inr ⟨h1.cons he, h2⟩
    · cases hf

theorem setKey_spec {ks : List Nat} {k v : DV} : ∀ {es es' : List (DV × DV)}, setKey ks k v es = some es' → (∃ i, FirstAt ks k es i ∧ es' = es.set i (k, v)) ∨ (NoneAt ks k es ∧ es' = es ++ [(k, v)])
  | [], es', hf => by simp [setKey] at hf; exact .inr ⟨fun j e he => by simp at he, hf.symm⟩
  | e :: es, es', hf => by
    simp only [setKey] at hf
    split at hf
    · rename_i he; cases hf
      exact .inl ⟨0, ⟨⟨e, rfl, he⟩, fun j e' hj => by omega⟩, rfl⟩
    · rename_i he
      cases hs : setKey ks k v es with
      | none => simp [hs] at hf
      | some r =>
        simp [hs] at hf; subst hf
        rcases setKey_spec hs with ⟨i, h1, rfl⟩ | ⟨h1, rfl⟩
        · exact .inl ⟨i + 1, h1.succ he, rfl⟩
        · exact .inr ⟨h1.cons he, rfl⟩
    · cases hf

theorem delKey_spec {ks : List Nat} {k : DV} : ∀ {es es' : List (DV × DV)}, delKey ks k es = some es' → (∃ i, FirstAt ks k es i ∧ es' = es.eraseIdx i) ∨ (NoneAt ks k es ∧ es' = es)
  | [], es', hf => by simp [delKey] at hf; subst hf; exact .inr ⟨fun j e he => by simp at he, rfl⟩
  | e :: es, es', hf => by
    simp only [delKey] at hf
    split at hf
    · rename_i he; cases hf
      exact .inl ⟨0, ⟨⟨e, rfl, he⟩, fun j e' hj => by omega⟩, rfl⟩
    · rename_i he
      cases hs : delKey ks k es with
      | none => simp [hs] at hf
      | some r =>
        simp [hs] at hf; subst hf
        rcases delKey_spec hs with ⟨i, h1, rfl⟩ | ⟨h1, rfl⟩
        · exact .inl ⟨i + 1, h1.succ he, rfl⟩
        · exact .inr ⟨h1.cons he, rfl⟩
    · cases hf

theorem RelE.get {es : List (DV × DV)} {ents : List MapEntry} (hr : RelE g es ents) {i : Nat} {e : DV × DV} (he : es[i]? = some e) : ∃ m, ents[i]? = some m ∧ RelV g e.1 m.key ∧ RelV g e.2 m.val := by
  have hi : i < es.length := (List.getElem?_eq_some_iff.1 he).1
  have hi' : i < ents.length := hr.len ▸ hi
  exact ⟨ents[i], List.getElem?_eq_getElem hi', hr.at_ i e _ he (List.getElem?_eq_getElem hi')⟩

theorem RelE.tail {e : DV × DV} {es : List (DV × DV)} {m : MapEntry} {ents : List MapEntry} (hr : RelE g (e :: es) (m :: ents)) : RelE g es ents :=
  ⟨by have := hr.len; simpa using this, fun k d m' h1 h2 => hr.at_ (k + 1) d m' (by simpa using h1) (by simpa using h2)⟩

theorem findAsking_run {kt : TypeId} {ks : List Nat} {k : DV} {v : Value} (hk : flatK P 8 kt = some ks) (ho : keyOK P kt k = true) (hr : RelV g k v) : ∀ (es : List (DV × DV)) (ents : List MapEntry) (n : Nat), RelE g es ents →
    (∀ i, FirstAt ks k es i → ∃ m, ents[i]? = some m ∧ (Instr.findAsking kt v ents n).run P w = .ok (some (n + i, m.val)) w) ∧ (NoneAt ks k es → (Instr.findAsking kt v ents n).run P w = .ok none w)
  | [], [], n, hre => ⟨fun i hf => by obtain ⟨⟨e, he, _⟩, _⟩ := hf; simp at he, fun _ => by simp [Instr.findAsking]⟩
  | [], _ :: _, n, hre => by have := hre.len; simp at this
  | _ :: _, [], n, hre => by have := hre.len; simp at this
  | e :: es, m :: ents, n, hre => by
    have h0 := hre.at_ 0 e m rfl rfl
    have ih := findAsking_run hk ho hr es ents (n + 1) hre.tail
    refine ⟨fun i hf => ?_, fun hn => ?_⟩
    · cases i with
      | zero =>
        obtain ⟨⟨e', he, h1⟩, _⟩ := hf
        simp at he; subst he
        have := key_eq (w := w) hk ho hr h0.1 h1 10000 (by omega)
        exact ⟨m, rfl, by simp [Instr.findAsking, Op.equal, Op.maxDepth, this]⟩
      | succ i =>
        have h1 := hf.2 0 e (by omega) rfl
        have := key_eq (w := w) hk ho hr h0.1 h1 10000 (by omega)
        have hf' : FirstAt ks k es i := by
          obtain ⟨⟨e', he, h2⟩, h3⟩ := hf
          exact ⟨⟨e', by simpa using he, h2⟩, fun j e'' hj he' => h3 (j + 1) e'' (by omega) (by simpa using he')⟩
        obtain ⟨m', hm, hrun⟩ := ih.1 i hf'
        refine ⟨m', by simpa using hm, ?_⟩
        rw [show n + (i + 1) = n + 1 + i by omega]
        simp [Instr.findAsking, Op.equal, Op.maxDepth, this, hrun]
    · have h1 := hn 0 e rfl
      have := key_eq (w := w) hk ho hr h0.1 h1 10000 (by omega)
      have hrun := ih.2 (fun j e' he => hn (j + 1) e' (by simpa using he))
      simp [Instr.findAsking, Op.equal, Op.maxDepth, this, hrun]

/-- Keys that are compared at once. -/
theorem sameNow_key {kt : TypeId} {ks : List Nat} {k k' : DV} {v v' : Value} {r : Bool} {u : TypeDesc} (hu : P.underlying kt = some u) (hag : aggD u = false) (hk : flatK P 8 kt = some ks) (ho : keyOK P kt k = true)
    (hr : RelV g k v) (hr' : RelV g k' v') (he : eqKey ks k k' = some r) : Instr.sameNow u v v' = some r := by
  obtain ⟨q, xs, hq, hxl, hka⟩ := keyAt (P := P) hk ho hr
  clear hxl
  obtain ⟨ys, hy, hev⟩ := hka.eq k' r he g v' hr'
  obtain ⟨i, u', t1, t2, t3, t4⟩ := tinfo_spec hq
  rw [hu] at t3; cases t3
  rw [hag] at t4; subst t4
  rw [hka.val, hy]
  unfold flatK at hk
  rw [hu] at hk
  split at hk
  · rename_i kk e1 e2
    cases e1; cases hk
    obtain ⟨x, y, rfl, rfl⟩ := eqV_one hev
    simp only [eqV] at hev
    cases x <;> cases y <;> simp only [eq1] at hev <;> try (cases hev)
    rename_i k1 a1 k2 a2
    by_cases hkk : k1 = k2
    · subst hkk; simp at hev; subst hev; simp [valOf, Instr.sameNow]
    · simp [hkk] at hev
  · rename_i e1 e2
    cases e1; cases hk
    obtain ⟨x, y, rfl, rfl⟩ := eqV_one hev
    simp only [eqV] at hev
    cases x <;> cases y <;> simp only [eq1] at hev <;> try (cases hev)
    simp [valOf, Instr.sameNow]
  · rename_i e1 e2
    cases e1; cases hk
    obtain ⟨x, y, rfl, rfl⟩ := eqV_one hev
    simp only [eqV] at hev
    cases x <;> cases y <;> simp only [eq1] at hev <;> try (cases hev)
    simp [valOf, Instr.sameNow]
  · rename_i e1 e2; cases e1; simp [aggD] at hag
  · cases hk

theorem findNow_run {kt : TypeId} {ks : List Nat} {k : DV} {v : Value} {u : TypeDesc} (hu : P.underlying kt = some u) (hag : aggD u = false) (hk : flatK P 8 kt = some ks) (ho : keyOK P kt k = true) (hr : RelV g k v) :
    ∀ (es : List (DV × DV)) (ents : List MapEntry) (n : Nat), RelE g es ents →
    (∀ i, FirstAt ks k es i → ∃ m, ents[i]? = some m ∧ Instr.findNow u v ents n = some (some (n + i, m.val))) ∧ (NoneAt ks k es → Instr.findNow u v ents n = some none)
  | [], [], n, hre => ⟨fun i hf => by obtain ⟨⟨e, he, _⟩, _⟩ := hf; simp at he, fun _ => by simp [Instr.findNow]⟩
  | [], _ :: _, n, hre => by have := hre.len; simp at this
  | _ :: _, [], n, hre => by have := hre.len; simp at this
  | e :: es, m :: ents, n, hre => by
    have h0 := hre.at_ 0 e m rfl rfl
    have ih := findNow_run hu hag hk ho hr es ents (n + 1) hre.tail
    refine ⟨fun i hf => ?_, fun hn => ?_⟩
    · cases i with
      | zero =>
        obtain ⟨⟨e', he, h1⟩, _⟩ := hf
        simp at he; subst he
        have := sameNow_key hu hag hk ho hr h0.1 h1
        exact ⟨m, rfl, by simp [Instr.findNow, this]⟩
      | succ i =>
        have h1 := hf.2 0 e (by omega) rfl
        have := sameNow_key hu hag hk ho hr h0.1 h1
        have hf' : FirstAt ks k es i := by
          obtain ⟨⟨e', he, h2⟩, h3⟩ := hf
          exact ⟨⟨e', by simpa using he, h2⟩, fun j e'' hj he' => h3 (j + 1) e'' (by omega) (by simpa using he')⟩
        obtain ⟨m', hm, hrun⟩ := ih.1 i hf'
        refine ⟨m', by simpa using hm, ?_⟩
        rw [show n + (i + 1) = n + 1 + i by omega]
        simp [Instr.findNow, this, hrun]
    · have h1 := hn 0 e rfl
      have := sameNow_key hu hag hk ho hr h0.1 h1
      have hrun := ih.2 (fun j e' he => hn (j + 1) e' (by simpa using he))
      simp [Instr.findNow, this, hrun]

theorem findNow_struct {u : TypeDesc} (hag : aggD u = true) (v : Value) (m : MapEntry) (ents : List MapEntry) (n : Nat) : Instr.findNow u v (m :: ents) n = none := by
  have : Instr.sameNow u v m.key = none := by
    cases u <;> simp [aggD] at hag <;> simp [Instr.sameNow]
  simp [Instr.findNow, this]

theorem findKey_run {kt : TypeId} {ks : List Nat} {k : DV} {v : Value} (hk : flatK P 8 kt = some ks) (ho : keyOK P kt k = true) (hr : RelV g k v) {es : List (DV × DV)} {ents : List MapEntry} (hre : RelE g es ents) :
    (∀ i, FirstAt ks k es i → ∃ m, ents[i]? = some m ∧ (Instr.findKey kt v ents).run P w = .ok (some (i, m.val)) w) ∧ (NoneAt ks k es → (Instr.findKey kt v ents).run P w = .ok none w) := by
  obtain ⟨q, hq, _⟩ := flatK_tinfo hk
  obtain ⟨i, u, t1, t2, hu, t4⟩ := tinfo_spec hq
  by_cases hag : aggD u = false
  · have h1 := findNow_run hu hag hk ho hr es ents 0 hre
    refine ⟨fun i hf => ?_, fun hn => ?_⟩
    · obtain ⟨m, hm, hf'⟩ := h1.1 i hf
      exact ⟨m, hm, by simp [Instr.findKey, run_underlying hu, hf']⟩
    · simp [Instr.findKey, run_underlying hu, h1.2 hn]
  · have hag' : aggD u = true := by simpa using hag
    have h1 := findAsking_run (w := w) hk ho hr es ents 0 hre
    cases ents with
    | nil =>
      refine ⟨fun i hf => ?_, fun hn => by simp [Instr.findKey, run_underlying hu, Instr.findNow]⟩
      obtain ⟨m, hm, _⟩ := h1.1 i hf
      simp at hm
    | cons m0 ents =>
      refine ⟨fun i hf => ?_, fun hn => ?_⟩
      · obtain ⟨m, hm, hf'⟩ := h1.1 i hf
        exact ⟨m, hm, by simp [Instr.findKey, run_underlying hu, findNow_struct hag', hf']⟩
      · simp [Instr.findKey, run_underlying hu, findNow_struct hag', h1.2 hn]

theorem checkKey_run (b : Bool) : ∀ (n : Nat) (kt : TypeId) (ks : List Nat) (q : Bool) (xs : List Value) (D : Nat), flatK P n kt = some ks → tinfo P kt = some (q, ks.length) → xs.length = ks.length → n ≤ D →
    (Instr.checkKey b D kt (valOf q xs)).run P w = .ok () w
  | 0, kt, ks, q, xs, D, h, _, _, _ => by simp [flatK] at h
  | n + 1, kt, ks, q, xs, D, h, hq, hl, hD => by
    obtain ⟨D, rfl⟩ : ∃ m, D = m + 1 := ⟨D - 1, by omega⟩
    unfold flatK at h
    split at h
    · rename_i k hu hi; cases h; rw [hi] at hq; cases hq; simp [valOf, Instr.checkKey, run_underlying hu]
    · rename_i hu hi; cases h; rw [hi] at hq; cases hq; simp [valOf, Instr.checkKey, run_underlying hu]
    · rename_i hu hi; cases h; rw [hi] at hq; cases hq; simp [valOf, Instr.checkKey, run_underlying hu]
    · rename_i fs m hu hi
      split at h
      · cases h
      · split at h
        · rename_i l hg
          split at h
          · rename_i hlm
            cases h
            rw [hi] at hq
            cases hq
            simp only [valOf, if_true, Instr.checkKey, Sem.run_bind, run_underlying hu, Result.andThen_ok]
            rw [← Array.forIn_toList]
            have key : ∀ (fl : List Field) (off : Nat) (ks' : List Nat), goK (flatK P n) fl off = some ks' → off + ks'.length = xs.length →
                (forIn (m := Sem) fl PUnit.unit fun f _ => if f.name ≠ "_" then do Instr.checkKey b D f.type (← part f.type xs.toArray f.offset); pure (ForInStep.yield PUnit.unit) else pure (ForInStep.yield PUnit.unit)).run P w = .ok PUnit.unit w := by
              intro fl
              induction fl with
              | nil => intro off ks' _ _; rfl
              | cons f fl ih =>
                intro off ks' hk h1
                simp only [goK] at hk
                split at hk
                · rename_i hname
                  obtain ⟨hname, hoff⟩ := hname
                  split at hk
                  · rename_i l' hf
                    split at hk
                    · rename_i m' hm
                      cases hk
                      simp only [List.length_append] at h1
                      obtain ⟨qf, hqf, hq1⟩ := flatK_tinfo hf
                      have px := part_take (w := w) hqf xs off (by omega) hq1
                      have hrec := checkKey_run b n f.type l' qf ((xs.drop off).take l'.length) D hf hqf (by simp; omega) (by omega)
                      have hrest := ih (off + l'.length) m' hm (by omega)
                      rw [List.forIn_cons, Sem.run_bind, if_pos hname]
                      simp only [Sem.run_bind, hoff, px, Result.andThen_ok]
                      rw [show (Instr.checkKey b D f.type (if qf = true then Value.agg ((xs.drop off).take l'.length).toArray else ((xs.drop off).take l'.length).headD undef)).run P w = .ok () w from hrec]
                      simp only [Result.andThen_ok, Sem.run_pure]
                      exact hrest
                    · cases hk
                  · cases hk
                · cases hk
            have hkey := key fs.toList 0 _ hg (by omega)
            have hkey' : ∀ (r : Result PUnit), r = .ok PUnit.unit w → (r.andThen fun a w' => (.ok () w' : Result Unit)) = .ok () w := fun r hr => by rw [hr]; rfl
            simp only [Sem.run_pure]
            exact hkey' _ hkey
          · cases h
        · cases h
    · cases h

theorem mapAt_rel (hW : WInv g h w) {tmps : Array Value} {y : DV} {v : Value} {es : List (DV × DV)} (hy : RelP g t tmps y v) (hm : mapAt h y = some es) :
    ∃ ents : Array MapEntry, RelE g es ents.toList ∧ ((v = .map none ∧ ents = #[]) ∨ ∃ b clk, v = .map (some b) ∧ w.heap[b]? = some (.map ents clk)) := by
  unfold mapAt at hm
  split at hm
  · cases hm
    refine ⟨#[], ⟨rfl, fun k d e he => by simp at he⟩, .inl ⟨?_, rfl⟩⟩
    cases hy; rfl
  · rename_i i
    split at hm
    · rename_i es' he
      cases hm
      obtain ⟨ents, clk, h1, h2, h3, h4, _⟩ := hW.obj _ _ he
      cases hy
      exact ⟨ents, h4, .inr ⟨_, clk, rfl, h1⟩⟩
    · cases hm
  · cases hm

theorem run_getObj_map {b : Nat} {ents : Array MapEntry} {clk : Nat} (hb : w.heap[b]? = some (.map ents clk)) : (getObj b).run P w = .ok (.map ents clk) w := by
  simp [getObj, Sem.run, hb]

theorem calm_lookup (hT : RelT g w d t a.tmps) (hW : WInv g h w) {ty kt et : TypeId} {m k : Operand} {ok : Bool} (ho : o.op = .lookup ty m k ok) (hu : P.underlying ty = some (.map kt et)) {ks : List Nat}
    (hk : flatK P 8 kt = some ks) (hko : keyOK P kt (opnd P kt t k) = true) {es : List (DV × DV)} (hm : mapAt h (opnd P ty t m) = some es) {z : DV} (hz : zeroD P et = some z) {r : Option DV}
    (hf : findD ks (opnd P kt t k) es = some r) : CalmOut P o a g w h d t (if ok then .tup [(r.getD z).shed, .sc (.bool r.isSome)] else (r.getD z).shed) := by
  obtain ⟨ents, hre, hv⟩ := mapAt_rel hW (opnd_rel (P := P) hT ty m) hm
  have hkp : (opnd P kt t k).plain = true := by
    unfold keyOK at hko
    split at hko <;> first | (cases hko; done) | simp_all [DV.plain, DV.isBox, DV.isPath]
  have hkr := opnd_rel (P := P) hT kt k
  rw [RelP.of_plain hkp] at hkr
  obtain ⟨zv, hzr, hzrel, _⟩ := zeroD_rel (g := g) (w := w) hz
  have hck : (Instr.checkKey ents.isEmpty 10000 kt (a.eval k)).run P w = .ok () w := by
    obtain ⟨q, xs, hq, hl, hka⟩ := keyAt (P := P) hk hko hkr
    rw [hka.val]
    exact checkKey_run _ 8 kt ks q xs 10000 hk hq hl (by omega)
  have hfk := findKey_run (w := w) hk hko hkr hre
  obtain ⟨rv, hrv, hrun⟩ : ∃ rv, RelV g (r.getD z) rv ∧ (match r with
      | some _ => ∃ i, (Instr.findKey kt (a.eval k) ents.toList).run P w = .ok (some (i, rv)) w
      | none => (Instr.findKey kt (a.eval k) ents.toList).run P w = .ok none w ∧ rv = zv) := by
    rcases findD_spec hf with ⟨i, e, hfi, he, rfl⟩ | ⟨hn, rfl⟩
    · obtain ⟨m', hm', hrun⟩ := hfk.1 i hfi
      exact ⟨m'.val, (hre.at_ i e m' he hm').2, i, hrun⟩
    · exact ⟨zv, hzrel, hfk.2 hn, rfl⟩
  have hval : (Instr.lookup ty (a.eval m) (a.eval k) ok).run P w = .ok (if ok then .tuple #[rv, .bool r.isSome] else rv) w := by
    unfold Instr.lookup
    rcases hv with ⟨hv, rfl⟩ | ⟨b, clk, hv, hb⟩
    · have hck2 : (Instr.checkKey true 10000 kt (a.eval k)).run P w = .ok () w := hck
      cases r with
      | some d =>
        obtain ⟨i, hrun⟩ := hrun
        have hrun2 : (Instr.findKey kt (a.eval k) []).run P w = .ok (some (i, rv)) w := hrun
        simp [run_underlying hu, hv, hck2, hrun2]
      | none =>
        obtain ⟨hrun, rfl⟩ := hrun
        have hrun2 : (Instr.findKey kt (a.eval k) []).run P w = .ok none w := hrun
        simp [run_underlying hu, hv, hck2, hrun2, hzr]
    · cases r with
      | some d =>
        obtain ⟨i, hrun⟩ := hrun
        simp [run_underlying hu, hv, run_getObj_map hb, hck, hrun]
      | none =>
        obtain ⟨hrun, rfl⟩ := hrun
        simp [run_underlying hu, hv, run_getObj_map hb, hck, hrun, hzr]
  have hx : (execOp a.eval o).run P w = .ok (.value (if ok then .tuple #[rv, .bool r.isSome] else rv)) w := by
    simp [execOp, ho, hval]
  cases ok with
  | true =>
    refine calm_here hW hx ?_ (by simp only [if_true]; exact shed_tup_shed _ _)
    simp only [if_true]
    exact (RelV.tup (g := g) (vs := [rv, .bool r.isSome]) rfl (RelL.cons hrv.shed (.cons (.sc _) (.nil g))).at_).relP
  | false =>
    refine calm_here hW hx ?_ (shed_shed _)
    simpa using hrv.shed.relP

theorem calm_sound (hT : RelT g w d t a.tmps) (hW : WInv g h w) (hx : calmV P o t h = some x) : CalmOut P o a g w h d t x := by
  unfold calmV at hx
  split at hx
  · rename_i y ho; cases hx; exact calm_move hT hW (.inl ho)
  · rename_i y ho; cases hx; exact calm_move hT hW (.inr ho)
  · rename_i c y z ho
    split at hx
    · rename_i b hc; cases hx; exact calm_pick hT hW ho hc
    · cases hx
  · rename_i op ty y z yt ho; exact calm_binOp hT hW ho hx
  · rename_i op ty y ho
    split at hx
    · rename_i v hy
      cases hd : det P (Op.unary op v) with
      | none => simp [hd] at hx
      | some r => simp [hd] at hx; subst hx; exact calm_unOp hT hW ho hy hd
    · cases hx
  · rename_i src dst y ho
    split at hx
    · rename_i k k' k'' n hs hd hy
      cases hr : det P (Conv.intToInt k' n) with
      | none => simp [hr] at hx
      | some r => simp [hr] at hx; subst hx; exact calm_convert_int hT hW ho hs hd hy hr
    · rename_i s hs hd hy; cases hx; exact calm_convert_str hT hW ho hs hd hy
    · rename_i e own es l hs hd hy
      split at hx
      · rename_i xs he hb; cases hx; exact calm_convert_bytes hT hW ho hs hd he hy hb
      · cases hx
    · cases hx
  · rename_i y i ho
    split at hx
    · rename_i cs hy
      cases hc : cs[i]? with
      | none => simp [hc] at hx
      | some c => simp [hc] at hx; subst hx; exact calm_extract hT hW ho hy hc
    · cases hx
  · rename_i ty y f ho
    split at hx
    · rename_i cs ft off hy hf; exact calm_field hT hW ho hy hf hx
    · cases hx
  · rename_i s y f ho
    split at hx
    · rename_i ft off hf; exact calm_fieldAddr hT hW ho hf hx
    · cases hx
  · rename_i ty y ho
    split at hx
    · rename_i cs hc; exact calm_load hT hW ho hc hx
    · cases hx
  · rename_i ty y z ho
    split at hx
    · rename_i i hi
      unfold indexAddrD at hx
      split at hx
      · rename_i e own es l hu hy
        split at hx
        · rename_i hc
          split at hx
          · rename_i c hl; cases hx; exact calm_indexAddr_slice hT hW ho hi hu hy hc.1 hc.2.1 hc.2.2 hl
          · cases hx
        · cases hx
      · rename_i e j es off n hu hy
        split at hx
        · rename_i hc; cases hx; exact calm_indexAddr_vec hT hW ho hi hu hy hc.1 hc.2.1 hc.2.2.1 hc.2.2.2
        · cases hx
      · rename_i n e hu
        split at hx
        · rename_i hc; exact calm_indexAddr_array hT hW ho hi hu hc.1 hc.2.1 hc.2.2 hx
        · cases hx
      · cases hx
    · cases hx
  · rename_i ty y z ho
    split at hx
    · rename_i s i hu hy hi
      split at hx
      · rename_i h0
        cases hb : s[i.toNat]? with
        | none => simp [hb] at hx
        | some b => simp [hb] at hx; subst hx; exact calm_index_str hT hW ho hi hu hy h0 hb
      · cases hx
    · rename_i n e cs i hu hy hi
      split at hx
      · rename_i hc; exact calm_index_arr hT hW ho hi hu hy hc.1 hc.2.1 hc.2.2 hx
      · cases hx
    · cases hx
  · rename_i ty y lo hi mx ho
    cases hs : sliceD P ty (opnd P ty t y) (lo.map (opnd P o.type t)) (hi.map (opnd P o.type t)) (mx.map (opnd P o.type t)) with
    | none => simp [hs] at hx
    | some r => simp [hs] at hx; exact calm_slice hT hW ho hs hx.symm
  · rename_i y ho; exact calm_nilCheck hT hW ho hx
  · rename_i ty ps ho
    split at hx
    · rename_i z fs hz hu
      split at hx
      · cases hx
      · rename_i hi
        obtain ⟨rs, hb, rfl⟩ := Option.map_eq_some_iff.1 hx
        exact calm_build_struct hT hW ho hu hz ((Bool.not_eq_false _).mp hi) hb
    · rename_i z n e hz hu
      split at hx
      · cases hx
      · rename_i hi
        obtain ⟨rs, hb, rfl⟩ := Option.map_eq_some_iff.1 hx
        exact calm_build_array hT hW ho hu hz ((Bool.not_eq_false _).mp hi) hb
    · cases hx
  · rename_i ty n ps ho
    split at hx
    · rename_i e he
      split at hx
      · rename_i hc
        split at hx
        · rename_i hall; cases hx; exact calm_buildSlice hT hW ho he hc.1 hc.2.1 hc.2.2.1 hc.2.2.2 hall
        · cases hx
      · cases hx
    · cases hx
  · rename_i ty y ho
    split at hx
    · cases hx
    · cases hx
    · rename_i u hu1 hu2
      split at hx
      · rename_i hp
        cases hx
        cases hu : P.underlying ty with
        | none => exact absurd hu hu2
        | some v => exact calm_makeInterface hT hW ho hu (fun ms e => hu1 ms (by rw [hu, e])) hp
      · cases hx
  · rename_i ty m k ok ho
    split at hx
    · rename_i kt et hu
      split at hx
      · rename_i ks es z hk hko hm hz
        split at hx
        · rename_i r hf
          have := calm_lookup hT hW ho hu hk hko hm hz hf
          split at hx
          · rename_i hok; cases hx; simpa [hok] using this
          · rename_i hok; cases hx; simpa [hok] using this
        · cases hx
      · cases hx
    · cases hx
  · rename_i args argTypes ho
    split at hx
    · rename_i y ty ha ht hs
      cases hl : lenD P ty h (opnd P ty t y) with
      | none => simp [hl] at hx
      | some n => simp [hl] at hx; subst hx; exact calm_len hT hW ho ha hs ht hl
    · cases hx
  · rename_i args argTypes ho
    split at hx
    · rename_i y z ha ha2 hs; exact calm_mm (mx := true) hT hW ho ha ha2 hs hx
    · cases hx
  · rename_i args argTypes ho
    split at hx
    · rename_i y z ha ha2 hs; exact calm_mm (mx := false) hT hW ho ha ha2 hs hx
    · cases hx
  · cases hx
end
end Go.DS
