/-
  A calm operation sees the same where its operands are the same.
-/
import Derived.Test.YtpbknejlalkfjaaK2
import Derived.Orders
set_option linter.unusedSimpArgs false
set_option linter.unusedVariables false
namespace Go.DS
open Go
set_option linter.unusedVariables false

/-- Operands whose memory an operation looks at. -/
def readOps (o : Oper) : List Operand := match o.op with
  | .load _ a => [a]
  | .lookup _ m _ _ => [m]
  | .call { callee := .builtin .max, .. } => []
  | .call { callee := .builtin .min, .. } => []
  | .call c => c.args.toList
  | _ => []

section
variable {P : Program} {C : Cfg} {f : FuncId} {o : Oper} {t t1 : List DV} {h hh : DHeap}

structure Alike (P : Program) (o : Oper) (t t1 : List DV) (h hh : DHeap) : Prop where
  ops : ∀ x ∈ o.op.operands.toList, ∀ ty, opnd P ty t1 x = opnd P ty t x
  mv : ∀ x ∈ o.op.operands.toList, ∀ ty n, moveD t1 n (opnd P ty t x) = moveD t n (opnd P ty t x)
  rd : ∀ x ∈ readOps o, ∀ ty, cellsAt t1 hh (opnd P ty t x) = cellsAt t h (opnd P ty t x) ∧ mapAt hh (opnd P ty t x) = mapAt h (opnd P ty t x) ∧ ∀ ty', lenD P ty' hh (opnd P ty t x) = lenD P ty' h (opnd P ty t x)

theorem indexAddr_congr {ty : TypeId} {x : DV} {i : Int} (h : ∀ n, moveD t1 n x = moveD t n x) : indexAddrD P t1 ty x i = indexAddrD P t ty x i := by
  unfold indexAddrD
  split
  · rfl
  · rfl
  · rw [h]
  · rfl

theorem calm_congr (H : Alike P o t t1 h hh) : calmV P o t1 hh = calmV P o t h := by
  have h1 := H.ops
  have h2 := H.mv
  have h3 := H.rd
  unfold calmV
  cases ho : o.op with
  | move x => simp only [h1 x (by simp [ho, Op.operands])]
  | assign x => simp only [h1 x (by simp [ho, Op.operands])]
  | pick c x y =>
    simp only [h1 c (by simp [ho, Op.operands]), h1 x (by simp [ho, Op.operands]), h1 y (by simp [ho, Op.operands])]
    split
    · rename_i b _
      cases b <;> simp [h1 x (by simp [ho, Op.operands]), h1 y (by simp [ho, Op.operands])]
    · rfl
  | binOp op ty x y yt => simp only [h1 x (by simp [ho, Op.operands]), h1 y (by simp [ho, Op.operands])]
  | unOp op ty x => simp only [h1 x (by simp [ho, Op.operands])]
  | convert s d x => simp only [h1 x (by simp [ho, Op.operands])]
  | extract x i => simp only [h1 x (by simp [ho, Op.operands])]
  | field ty x k => simp only [h1 x (by simp [ho, Op.operands])]
  | fieldAddr ty x k => simp only [h1 x (by simp [ho, Op.operands]), h2 x (by simp [ho, Op.operands])]
  | load ty x => simp only [h1 x (by simp [ho, Op.operands]), (h3 x (by simp [readOps, ho]) _).1]
  | indexAddr ty x i =>
    have hia : ∀ j, indexAddrD P t1 ty (opnd P ty t x) j = indexAddrD P t ty (opnd P ty t x) j := fun j => indexAddr_congr (h2 x (by simp [ho, Op.operands]) ty)
    simp only [h1 x (by simp [ho, Op.operands]), h1 i (by simp [ho, Op.operands]), hia]
  | index ty x i => simp only [h1 x (by simp [ho, Op.operands]), h1 i (by simp [ho, Op.operands])]
  | slice ty x lo hi mx =>
    have hl : lo.map (opnd P o.type t1) = lo.map (opnd P o.type t) := by
      cases lo with
      | none => rfl
      | some l => simp only [Option.map_some, h1 l (by simp [ho, Op.operands])]
    have hh' : hi.map (opnd P o.type t1) = hi.map (opnd P o.type t) := by
      cases hi with
      | none => rfl
      | some l => simp only [Option.map_some, h1 l (by simp [ho, Op.operands])]
    have hm : mx.map (opnd P o.type t1) = mx.map (opnd P o.type t) := by
      cases mx with
      | none => rfl
      | some l => simp only [Option.map_some, h1 l (by simp [ho, Op.operands])]
    simp only [h1 x (by simp [ho, Op.operands]), hl, hh', hm]
  | nilCheck x => simp only [h1 x (by simp [ho, Op.operands]), h2 x (by simp [ho, Op.operands])]
  | build ty ps =>
    have hp : ∀ F : Nat × Operand → TypeId, ps.toList.map (fun p => (p.1, opnd P (F p) t1 p.2)) = ps.toList.map (fun p => (p.1, opnd P (F p) t p.2)) := fun F =>
      List.map_congr_left fun p hp => by rw [h1 p.2 (by simp only [ho, Op.operands]; exact List.mem_map_of_mem hp)]
    simp only [hp]
  | buildSlice ty n ps =>
    have hp : ∀ e, ps.toList.map (fun p => cellsD (opnd P e t1 p.2).shed) = ps.toList.map (fun p => cellsD (opnd P e t p.2).shed) := fun e =>
      List.map_congr_left fun p hp => by rw [h1 p.2 (by simp only [ho, Op.operands]; exact List.mem_map_of_mem hp)]
    simp only [hp]
  | makeInterface ty x => simp only [h1 x (by simp [ho, Op.operands])]
  | lookup ty m k ok =>
    simp only [h1 m (by simp [ho, Op.operands]), h1 k (by simp [ho, Op.operands]), (h3 m (by simp [readOps, ho]) _).2.1]
  | call c =>
    obtain ⟨callee, args, argTypes⟩ := c
    cases callee with
    | value v => rfl
    | invoke r m => rfl
    | builtin b =>
      have hmm : ∀ (x : Operand) (i : Nat), args[i]? = some x → x ∈ o.op.operands.toList := fun x i ha => by
        have : x ∈ args.toList := by
          have := Array.mem_of_getElem? ha
          simpa using this
        simp [ho, Op.operands, Call.operands] at this ⊢; exact this
      have hmx : ∀ b, (match args[0]?, args[1]?, args.size with
          | some x, some y, 2 => mmD b (opnd P 0 t1 x) (opnd P 0 t1 y)
          | _, _, _ => none) = (match args[0]?, args[1]?, args.size with
          | some x, some y, 2 => mmD b (opnd P 0 t x) (opnd P 0 t y)
          | _, _, _ => none) := fun b => by
        cases ha : args[0]? with
        | none => rfl
        | some x =>
          cases hb : args[1]? with
          | none => rfl
          | some y =>
            have q1 := h1 x (hmm x 0 ha) 0
            have q2 := h1 y (hmm y 1 hb) 0
            generalize args.size = n
            match n with
            | 0 => rfl
            | 1 => rfl
            | 2 => simp only [q1, q2]
            | n + 3 => rfl
      cases b <;> first | rfl | exact hmx true | exact hmx false | skip
      cases ha : args[0]? with
      | none => simp [ha]
      | some x =>
        have hx : x ∈ args.toList := by
          have := Array.mem_of_getElem? ha
          simpa using this
        have hx' : x ∈ o.op.operands.toList := by simp [ho, Op.operands, Call.operands] at hx ⊢; exact hx
        simp only [ha]
        split
        · rename_i x' ty hxe _ _
          cases hxe
          rw [h1 x hx', (h3 x (by simpa [readOps, ho] using hx) _).2.2]
        · rfl
  | _ => rfl

end
end Go.DS

/-
  An operation does not look at the other slots.
-/
namespace Go.DS
open Go
set_option linter.unusedVariables false

section
variable {P : Program} {C : Cfg} {f : FuncId} {o : Oper} {t : List DV} {h : DHeap} {d : Nat} {v : DV}

theorem tmpsOf_mem {s : Tmp} : ∀ {xs : List Operand}, s ∈ tmpsOf xs ↔ .tmp s ∈ xs
  | [] => by simp [tmpsOf]
  | x :: xs => by cases x <;> simp [tmpsOf, tmpsOf_mem (xs := xs)]

theorem tmpsOf_one {xs : List Operand} {x : Operand} (hx : x ∈ xs) (h : d ∉ tmpsOf xs) : d ∉ tmpsOf [x] := by
  intro hd
  rw [tmpsOf_mem] at hd h
  simp only [List.mem_singleton] at hd
  exact h (hd ▸ hx)

theorem opnd_set {ty : TypeId} {x : Operand} (hx : d ∉ tmpsOf [x]) : opnd P ty (t.set d v) x = opnd P ty t x := by
  cases x <;> try rfl
  rename_i s
  have : d ≠ s := by intro e; apply hx; simp [tmpsOf, e]
  simp only [opnd, List.getElem?_set_ne this]

/-- No variable lies in the slot. -/
def NoBox (t : List DV) (d : Nat) : Prop := ∀ cs, t[d]? ≠ some (.box cs)

theorem noBox_set_ne {s : Nat} {x : DV} (hs : s ≠ d) (hn : NoBox t d) : NoBox (t.set s x) d := fun cs => by
  rw [List.getElem?_set_ne hs]; exact hn cs

theorem box_set (hn : NoBox t d) (hv : v.isBox = false) (s : Nat) (cs : List DV) : (t.set d v)[s]? = some (.box cs) ↔ t[s]? = some (.box cs) := by
  by_cases hs : d = s
  · subst hs
    constructor
    · intro hh
      rw [List.getElem?_set] at hh
      simp only [if_true] at hh
      split at hh
      · cases hh; cases hv
      · cases hh
    · intro hh; exact (hn _ hh).elim
  · rw [List.getElem?_set_ne hs]

theorem cellsAt_eq {t t1 : List DV} {p : DV} (hb : ∀ s off, p = .path s off → ∀ cs, t1[s]? = some (.box cs) ↔ t[s]? = some (.box cs)) : cellsAt t1 h p = cellsAt t h p := by
  cases p <;> try rfl
  rename_i s off
  have hb' := hb s off rfl
  simp only [cellsAt]
  split
  · rename_i cs hc
    rw [(hb' cs).1 hc]
  · rename_i hne
    split
    · rename_i cs hc
      exact (hne cs ((hb' cs).2 hc)).elim
    · rfl

theorem moveD_eq {t t1 : List DV} {p : DV} {n : Nat} (hb : ∀ s off, p = .path s off → ((∃ cs, t1[s]? = some (.box cs)) ↔ ∃ cs, t[s]? = some (.box cs))) : moveD t1 n p = moveD t n p := by
  cases p <;> try rfl
  rename_i s off
  have hb' := hb s off rfl
  simp only [moveD]
  split
  · rename_i cs hc
    obtain ⟨cs', hc'⟩ := hb'.1 ⟨cs, hc⟩
    rw [hc']
  · rename_i hne
    split
    · rename_i cs hc
      obtain ⟨cs', hc'⟩ := hb'.2 ⟨cs, hc⟩
      exact (hne cs' hc').elim
    · rfl

theorem cellsAt_set (hn : NoBox t d) (hv : v.isBox = false) {p : DV} : cellsAt (t.set d v) h p = cellsAt t h p := cellsAt_eq fun s _ _ cs => box_set hn hv s cs
theorem moveD_set (hn : NoBox t d) (hv : v.isBox = false) {p : DV} {n : Nat} : moveD (t.set d v) n p = moveD t n p := moveD_eq fun s _ _ =>
  ⟨fun ⟨cs, hc⟩ => ⟨cs, (box_set hn hv s cs).1 hc⟩, fun ⟨cs, hc⟩ => ⟨cs, (box_set hn hv s cs).2 hc⟩⟩

theorem readOps_sub {x : Operand} (hx : x ∈ readOps o) : x ∈ o.op.operands.toList := by
  unfold readOps at hx
  split at hx <;> rename_i ho <;> simp only [ho, Op.operands, Call.operands] <;> simp_all

theorem alike_set (hd : d ∉ tmpsOf o.op.operands.toList) (hn : NoBox t d) (hv : v.isBox = false) : Alike P o t (t.set d v) h h where
  ops x hx ty := opnd_set (tmpsOf_one hx hd)
  mv x hx ty n := moveD_set hn hv
  rd x hx ty := ⟨cellsAt_set hn hv, rfl, fun _ => rfl⟩

theorem calm_set (hd : d ∉ tmpsOf o.op.operands.toList) (hn : NoBox t d) (hv : v.isBox = false) : calmV P o (t.set d v) h = calmV P o t h := calm_congr (alike_set hd hn hv)

theorem set_comm' {t : List DV} {s : Nat} {x : DV} (hs : s ≠ d) : (t.set d v).set s x = (t.set s x).set d v := List.set_comm v x (Ne.symm hs)

theorem putD_set {dst : Option Tmp} {x : DV} (hd : dst ≠ some d) : putD (t.set d v) dst x = (putD t dst x).set d v := by
  cases dst with
  | none => rfl
  | some s => exact set_comm' (fun e => hd (by rw [e]))

theorem takeD_set {ty : TypeId} {x : Operand} (hx : d ∉ tmpsOf [x]) : takeD P ty (t.set d v) x = ((takeD P ty t x).1, (takeD P ty t x).2.set d v) := by
  unfold takeD
  rw [opnd_set hx]
  split
  · rename_i s
    have : s ≠ d := by intro e; apply hx; simp [tmpsOf, e]
    split
    · simp only [set_comm' this]
    · rfl
  · rfl
  · rfl

theorem takeD_fst_noBox {ty : TypeId} {x : Operand} : (takeD P ty t x).1.isBox = false := by
  unfold takeD
  have hb : (opnd P ty t x).isBox = false := by
    cases x with
    | tmp s =>
      simp only [opnd]
      split
      · rfl
      · rename_i y hne hy
        cases y <;> first | rfl | exact (hne _ rfl).elim
      · rfl
    | const c =>
      simp only [opnd, cst]
      split
      · rfl
      · unfold c1
        split
        · rfl
        · split <;> rfl
        · rfl
    | _ => rfl
  split
  · split
    · exact hb
    · rw [shed_isBox]; exact hb
  · exact hb
  · rw [shed_isBox]; exact hb

theorem takeD_noBox {ty : TypeId} {x : Operand} (hn : NoBox t d) : NoBox (takeD P ty t x).2 d := by
  unfold takeD
  split
  · rename_i s
    split
    · rename_i ho
      intro cs hcs
      by_cases e : s = d
      · subst e
        rw [List.getElem?_set] at hcs
        simp only [if_true] at hcs
        split at hcs
        · have h1 := shed_plain (opnd P ty t (.tmp s))
          rw [Option.some.inj hcs, (opnd_own ho).2] at h1
          cases h1
        · cases hcs
      · rw [List.getElem?_set_ne e] at hcs
        exact hn cs hcs
    · exact hn
  · exact hn
  · exact hn

theorem storeD_set (hn : NoBox t d) (hv : v.isBox = false) {p : DV} {new : List DV} : storeD (t.set d v) h p new = (storeD t h p new).map fun r => (r.1.set d v, r.2) := by
  unfold storeD
  split
  · split
    · rename_i s off
      split
      · rename_i cs hc
        rw [(box_set hn hv s cs).1 hc]
        have hs : s ≠ d := fun e => hn cs (e ▸ (box_set hn hv s cs).1 hc)
        dsimp only
        split
        · simp [set_comm' hs]
        · rfl
      · rename_i hne
        split
        · rename_i cs hc
          exact (hne cs ((box_set hn hv s cs).2 hc)).elim
        · rfl
    · split
      · split <;> rfl
      · rfl
    · split
      · split <;> rfl
      · rfl
    · rfl
  · rfl

theorem killPath_set {s : Nat} (hv : ∀ off, v ≠ .path s off) : killPath s (t.set d v) = (killPath s t).set d v := by
  unfold killPath
  rw [List.map_set]
  congr 1
  split
  · rename_i s' off
    split
    · rename_i e; exact (hv off (by rw [e])).elim
    · rfl
  · rfl

theorem newVar_set {dst : Option Tmp} {cs : List DV} (hd : dst ≠ some d) (hv : ∀ s off, dst = some s → C.esc f s = false → v ≠ .path s off) : newVar C f dst (t.set d v) h cs = (newVar C f dst t h cs).map fun r => (r.1.set d v, r.2) := by
  unfold newVar
  split
  · cases dst with
    | none => rfl
    | some s =>
      have hs : s ≠ d := fun e => hd (by rw [e])
      dsimp only
      split
      · simp [set_comm' hs]
      · rename_i he
        rw [killPath_set (fun off => hv s off rfl (by simpa using he)), set_comm' hs]
        rfl
  · rfl

theorem capture_set : ∀ (xs : List Operand) (t : List DV), d ∉ tmpsOf xs → capture P (t.set d v) xs = (capture P t xs).map fun r => (r.1, r.2.set d v)
  | [], t, _ => rfl
  | x :: xs, t, hd => by
    cases x <;> try rfl
    rename_i s
    simp only [tmpsOf, List.mem_cons, not_or] at hd
    have hs : d ≠ s := hd.1
    simp only [capture, List.getElem?_set_ne hs]
    cases hts : t[s]? with
    | none => rfl
    | some y =>
      have key : ∀ (r : DV) (t' : List DV), (match capture P (t'.set d v) xs with | some (ds, t'') => some (r :: ds, t'') | none => none) = Option.map (fun r => (r.1, r.2.set d v)) (match capture P t' xs with | some (ds, t'') => some (r :: ds, t'') | none => none) := fun r t' => by
        rw [capture_set xs t' hd.2]
        cases capture P t' xs <;> rfl
      cases y <;> dsimp only <;> split <;> first | rfl | exact key _ _ | (rw [set_comm' (Ne.symm hs)]; exact key _ _)

theorem argsD_set (raw : Bool) : ∀ (xs : List Operand) (tys : List TypeId), d ∉ tmpsOf xs → argsD P raw (t.set d v) xs tys = argsD P raw t xs tys
  | [], tys, _ => by cases tys <;> rfl
  | x :: xs, [], hd => by
    simp only [argsD, argD]
    rw [opnd_set (tmpsOf_one (List.mem_cons_self ..) hd), argsD_set raw xs [] (fun e => hd (by rw [tmpsOf_mem] at *; simp [e]))]
  | x :: xs, ty :: tys, hd => by
    simp only [argsD, argD]
    rw [opnd_set (tmpsOf_one (List.mem_cons_self ..) hd), argsD_set raw xs tys (fun e => hd (by rw [tmpsOf_mem] at *; simp [e]))]
end
end Go.DS

/-
  One operation under a change of a slot that it does not look at.
-/
namespace Go.DS
open Go
set_option linter.unusedVariables false
set_option linter.unusedSimpArgs false

section
variable {P : Program} {C : Cfg} {f : FuncId} {call : FuncId → List DV → DHeap → Option (DV × DHeap)} {o : Oper} {t : List DV} {h : DHeap} {d : Nat} {v : DV}

theorem opD_set (hd : d ∉ tmpsOf o.op.operands.toList) (hdst : o.dst ≠ some d) (hn : NoBox t d) (hv : v.isBox = false) (hp : srt C f o = .new → ∀ s off, o.dst = some s → v ≠ .path s off) :
    opD P C f call o (t.set d v) h = (opD P C f call o t h).map fun r => (r.1.set d v, r.2) := by
  have hop : ∀ x ∈ o.op.operands.toList, ∀ ty, opnd P ty (t.set d v) x = opnd P ty t x := fun x hx ty => opnd_set (tmpsOf_one hx hd)
  have hcalm := calm_set (P := P) (h := h) hd hn hv
  have hdef : (match calmV P o (t.set d v) h with | some x => some (putD (t.set d v) o.dst x, h) | none => none) = Option.map (fun r : List DV × DHeap => (r.1.set d v, r.2)) (match calmV P o t h with | some x => some (putD t o.dst x, h) | none => none) := by
    rw [hcalm]
    cases calmV P o t h with
    | none => rfl
    | some x => simp [putD_set hdst]
  have htake : ∀ x ∈ o.op.operands.toList, ∀ ty, takeD P ty (t.set d v) x = ((takeD P ty t x).1, (takeD P ty t x).2.set d v) := fun x hx ty => takeD_set (tmpsOf_one hx hd)
  unfold opD
  cases ho : o.op with
  | box ty x =>
    have hnv : ∀ s off, o.dst = some s → C.esc f s = false → v ≠ .path s off := fun s off e he => hp (by simp [srt, ho, e, he]) s off e
    simp only [hop x (by simp [ho, Op.operands])]
    exact newVar_set hdst hnv
  | alloc ty =>
    have hnv : ∀ s off, o.dst = some s → C.esc f s = false → v ≠ .path s off := fun s off e he => hp (by simp [srt, ho, e, he]) s off e
    dsimp only
    split
    · cases zeroR P (rawO C f o.dst) ty with
      | none => rfl
      | some z => exact newVar_set hdst hnv
    · cases zeroD P ty with
      | none => rfl
      | some z => exact newVar_set hdst hnv
  | store ty a x =>
    simp only [htake x (by simp [ho, Op.operands]), hop a (by simp [ho, Op.operands])]
    cases tinfo P ty with
    | none => rfl
    | some i =>
      dsimp only
      split
      · rw [storeD_set (takeD_noBox hn) hv]
        cases storeD (takeD P ty t x).2 h (opnd P o.type t a) (cellsD (takeD P ty t x).1) with
        | none => rfl
        | some r => simp [putD_set hdst]
      · rfl
  | makeMap ty r =>
    dsimp only
    split
    · simp [putD_set hdst]
    · rfl
  | mapUpdate ty m k x =>
    simp only [hop m (by simp [ho, Op.operands]), hop k (by simp [ho, Op.operands]), hop x (by simp [ho, Op.operands])]
    split
    · split
      · split
        · split
          · simp [putD_set hdst]
          · rfl
        · rfl
      · rfl
    · rfl
  | insert ty m k x =>
    simp only [hop m (by simp [ho, Op.operands]), hop k (by simp [ho, Op.operands]), hop x (by simp [ho, Op.operands])]
    split
    · split
      · split
        · split
          · simp [putD_set hdst]
          · rfl
        · rfl
      · rfl
    · rfl
  | makeFunc fn first cap =>
    dsimp only
    rw [capture_set _ t (by simpa [ho, Op.operands] using hd)]
    cases capture P t (first.toList ++ cap.toList) with
    | none => rfl
    | some r => simp [putD_set hdst]
  | makeSlice ty l c =>
    simp only [hop l (by simp [ho, Op.operands]), hop c (by simp [ho, Op.operands])]
    cases makeV P ty h (opnd P o.type t l) (opnd P o.type t c) with
    | none => rfl
    | some r => simp [putD_set hdst]
  | buildSlice ty n ps =>
    have he : buildV P (t.set d v) h ty n ps = buildV P t h ty n ps := by
      unfold buildV
      split
      · rename_i e he
        have hm : (ps.toList.map fun p => cellsD (opnd P e (t.set d v) p.2).shed) = ps.toList.map fun p => cellsD (opnd P e t p.2).shed := List.map_congr_left fun p hp => by
          rw [hop p.2 (by
            rw [ho]
            simp only [Op.operands, Array.toList_map, List.mem_map]
            exact ⟨p, hp, rfl⟩)]
        rw [hm]
      · rfl
    dsimp only
    rw [he]
    split
    · cases buildV P t h ty n ps with
      | none => rfl
      | some x => simp [putD_set hdst]
    · exact hdef
  | move x =>
    simp only [htake x (by simp [ho, Op.operands]), hop x (by simp [ho, Op.operands])]
    split
    · simp [putD_set hdst]
    · split <;> simp [putD_set hdst]
  | extract x i =>
    simp only [htake x (by simp [ho, Op.operands])]
    split
    · generalize takeD P o.type t x = q
      obtain ⟨y, t'⟩ := q
      cases y with
      | tup cs =>
        cases cs with
        | nil => rfl
        | cons y0 ys =>
          simp only [headD]
          split
          · simp [putD_set hdst]
          · rfl
      | _ => rfl
    · exact hdef
  | build ty ps =>
    have he : ∀ offs, buildR P offs (t.set d v) ty ps = buildR P offs t ty ps := by
      intro offs
      have hm : ∀ T : Nat → TypeId, ps.toList.map (fun p => (p.1, opnd P (T p.1) (t.set d v) p.2)) = ps.toList.map (fun p => (p.1, opnd P (T p.1) t p.2)) := fun T => List.map_congr_left fun p hp => by
        rw [hop p.2 (by
          rw [ho]
          simp only [Op.operands, Array.toList_map, List.mem_map]
          exact ⟨p, hp, rfl⟩)]
      unfold buildR
      split
      · rename_i z fs hz hu
        split
        · rfl
        · rw [hm (fty fs)]
      · rfl
    dsimp only
    rw [he]
    split
    · cases buildR P (rawO C f o.dst) t ty ps with
      | none => rfl
      | some x => simp [putD_set hdst]
    · exact hdef
  | assign x =>
    simp only [htake x (by simp [ho, Op.operands]), hop x (by simp [ho, Op.operands])]
    split
    · simp [putD_set hdst]
    · split <;> simp [putD_set hdst]
  | load ty a =>
    simp only [hop a (by simp [ho, Op.operands]), cellsAt_set hn hv]
    cases cellsAt t h (opnd P o.type t a) with
    | none => rfl
    | some cs =>
      dsimp only
      split
      · cases ownHead cs with
        | none => rfl
        | some e =>
          dsimp only
          rw [storeD_set hn hv]
          cases storeD t h (opnd P o.type t a) [.list false e.1 e.2] with
          | none => rfl
          | some r => simp [putD_set hdst]
      · cases ofCellsR P (raws C f o.dst) ty cs with
        | none => rfl
        | some x =>
          dsimp only
          split
          · rfl
          · simp [putD_set hdst]
  | call c =>
    obtain ⟨callee, args, argTypes⟩ := c
    have hargs : ∀ x ∈ args.toList, x ∈ o.op.operands.toList := fun x hx => by simp [ho, Op.operands, Call.operands] at hx ⊢; exact .inr hx
    cases callee with
    | value fv =>
      dsimp only
      have ha : ∀ raw, argsD P raw (t.set d v) args.toList argTypes.toList = argsD P raw t args.toList argTypes.toList := fun raw => argsD_set raw args.toList argTypes.toList (fun e => hd (by rw [tmpsOf_mem] at *; exact hargs _ e))
      simp only [hop fv (by simp [ho, Op.operands, Call.operands]), ha]
      split
      · split
        · split
          · simp [putD_set hdst]
          · rfl
        · rfl
      · rfl
    | invoke r m => exact hdef
    | builtin b =>
      cases b with
      | append =>
        dsimp only
        cases h0 : args[0]? with
        | none => rfl
        | some x =>
          have hx : x ∈ o.op.operands.toList := hargs x (by simpa using Array.mem_of_getElem? h0)
          cases h1 : args[1]? with
          | none => rfl
          | some y =>
            have hy : y ∈ o.op.operands.toList := hargs y (by simpa using Array.mem_of_getElem? h1)
            split
            · rename_i x' y' ty ty' e1 e2 _ _ _
              cases e1
              cases e2
              split
              · rfl
              · rfl
              · cases hdd : o.dst with
                | none => split <;> rfl
                | some s =>
                  have hs : s ≠ d := fun e => hdst (by rw [hdd, e])
                  simp only [htake x hx, hop x hx, hop y hy]
                  split
                  · cases appendV P ty h (opnd P ty t x) (opnd P ty' t y) with
                    | none => rfl
                    | some r => simp [set_comm' hs]
                  cases appendD P ty h (takeD P ty t x).1 (opnd P ty' t y) with
                  | none => rfl
                  | some r => simp [set_comm' hs]
            · rfl
      | delete =>
        dsimp only
        cases h0 : args[0]? with
        | none => rfl
        | some x =>
          have hx : x ∈ o.op.operands.toList := hargs x (by simpa using Array.mem_of_getElem? h0)
          cases h1 : args[1]? with
          | none => rfl
          | some y =>
            have hy : y ∈ o.op.operands.toList := hargs y (by simpa using Array.mem_of_getElem? h1)
            split
            · rename_i x' y' ty e1 e2 _ _
              cases e1
              cases e2
              simp only [hop x hx, hop y hy]
              split
              · split
                · split
                  · simp [putD_set hdst]
                  · rfl
                · rfl
              · rfl
            · rfl
      | _ => exact hdef
  | _ => exact hdef
end
end Go.DS

/-
  What an operation leaves of the other slots.
-/
namespace Go.DS
open Go
set_option linter.unusedVariables false
set_option linter.unusedSimpArgs false

/-- Slots of W apart, what is a variable stays one, and all else stays what it is. -/
structure Mild (W : List Tmp) (t t1 : List DV) : Prop where
  len : t1.length = t.length
  at_ : ∀ s, t1[s]? = t[s]? ∨ ((∃ c, t[s]? = some (.box c)) ∧ ∃ c, t1[s]? = some (.box c)) ∨ (s ∈ W ∧ NoBox t s ∧ NoBox t1 s)

section
variable {P : Program} {C : Cfg} {f : FuncId} {call : FuncId → List DV → DHeap → Option (DV × DHeap)} {o : Oper} {t t1 t2 : List DV} {h h1 : DHeap} {d : Nat} {v : DV} {W : List Tmp}

theorem Mild.refl (t : List DV) : Mild W t t := ⟨rfl, fun _ => .inl rfl⟩

theorem Mild.trans (a : Mild W t t1) (b : Mild W t1 t2) : Mild W t t2 where
  len := b.len.trans a.len
  at_ s := by
    rcases b.at_ s with h2 | ⟨⟨c, hc⟩, c2, hc2⟩ | ⟨hw, h2, h3⟩
    · rcases a.at_ s with h1 | ⟨⟨c, hc⟩, c1, hc1⟩ | ⟨hw, h1, h3⟩
      · exact .inl (h2.trans h1)
      · exact .inr (.inl ⟨⟨c, hc⟩, c1, h2.trans hc1⟩)
      · exact .inr (.inr ⟨hw, h1, fun cs hcs => h3 cs (h2 ▸ hcs)⟩)
    · rcases a.at_ s with h1 | ⟨⟨c', hc'⟩, _⟩ | ⟨hw, h1, h3⟩
      · exact .inr (.inl ⟨⟨c, h1 ▸ hc⟩, c2, hc2⟩)
      · exact .inr (.inl ⟨⟨c', hc'⟩, c2, hc2⟩)
      · exact (h3 _ hc).elim
    · rcases a.at_ s with h1 | ⟨_, c1, hc1⟩ | ⟨hw', h1, h4⟩
      · exact .inr (.inr ⟨hw, fun cs hcs => h2 cs (h1 ▸ hcs), h3⟩)
      · exact (h2 _ hc1).elim
      · exact .inr (.inr ⟨hw, h1, h3⟩)

theorem noBox_set_self {s : Nat} (hv : v.isBox = false) : NoBox (t.set s v) s := fun cs hcs => by
  rw [List.getElem?_set] at hcs
  simp only [if_true] at hcs
  split at hcs
  · cases hcs; cases hv
  · cases hcs

theorem Mild.set {s : Nat} (hs : s ∈ W) (hn : NoBox t s) (hv : v.isBox = false) : Mild W t (t.set s v) where
  len := by simp
  at_ k := by
    by_cases e : s = k
    · subst e
      exact .inr (.inr ⟨hs, hn, noBox_set_self hv⟩)
    · exact .inl (List.getElem?_set_ne e)

theorem Mild.put {dst : Option Tmp} (hs : ∀ s, dst = some s → s ∈ W ∧ NoBox t s) (hv : v.isBox = false) : Mild W t (putD t dst v) := by
  cases dst with
  | none => exact .refl t
  | some s => exact .set (hs s rfl).1 (hs s rfl).2 hv

theorem Mild.take {ty : TypeId} {x : Operand} (hx : ∀ s ∈ tmpsOf [x], s ∈ W) : Mild W t (takeD P ty t x).2 := by
  unfold takeD
  split
  · rename_i s
    split
    · rename_i ho
      have hp := (opnd_own ho).2
      refine .set (hx s (by simp [tmpsOf])) (fun cs hcs => ?_) (by rw [shed_isBox]; revert hp; generalize opnd P ty t (.tmp s) = y; intro hp; cases y <;> first | rfl | simp [DV.plain, DV.isBox] at hp)
      rw [(opnd_own ho).1] at hcs
      rw [Option.some.inj hcs] at hp
      cases hp
    · exact .refl t
  · exact .refl t
  · exact .refl t

theorem Mild.store {p : DV} {new : List DV} (hs : storeD t h p new = some (t1, h1)) : Mild W t t1 := by
  unfold storeD at hs
  split at hs
  · split at hs
    · rename_i s off
      split at hs
      · rename_i cs hc
        split at hs
        · cases hs
          refine ⟨by simp, fun k => ?_⟩
          by_cases e : s = k
          · subst e
            exact .inr (.inl ⟨⟨cs, hc⟩, _, by rw [List.getElem?_set]; simp [(List.getElem?_eq_some_iff.1 hc).1]; rfl⟩)
          · exact .inl (List.getElem?_set_ne e)
        · cases hs
      · cases hs
    · split at hs
      · split at hs
        · cases hs; exact .refl t
        · cases hs
      · cases hs
    · split at hs
      · split at hs
        · cases hs; exact .refl t
        · cases hs
      · cases hs
    · cases hs
  · cases hs

theorem Mild.box (hm : Mild W t t1) (s : Nat) : (∃ cs, t1[s]? = some (.box cs)) ↔ ∃ cs, t[s]? = some (.box cs) := by
  rcases hm.at_ s with h1 | ⟨h1, h2⟩ | ⟨_, h1, h2⟩
  · rw [h1]
  · exact ⟨fun _ => h1, fun _ => h2⟩
  · exact ⟨fun ⟨c, hc⟩ => (h2 c hc).elim, fun ⟨c, hc⟩ => (h1 c hc).elim⟩

theorem Mild.noBox (hm : Mild W t t1) (s : Nat) : NoBox t1 s ↔ NoBox t s :=
  ⟨fun hn c hc => (hm.box s).2 ⟨c, hc⟩ |>.elim fun c' hc' => hn c' hc', fun hn c hc => (hm.box s).1 ⟨c, hc⟩ |>.elim fun c' hc' => hn c' hc'⟩

/-- What a call comes to. -/
theorem eff_call {args : Array Operand} {argTypes : Array TypeId} {fv : Operand} (ho : o.op = .call { callee := .value fv, args, argTypes }) (hx : opD P C f call o t h = some (t1, h1)) :
    ∃ k xs r, call k xs h = some (r, h1) ∧ t1 = putD t o.dst r := by
  simp only [opD, ho] at hx
  split at hx
  · split at hx
    · split at hx
      · rename_i r h2 hc
        cases hx
        exact ⟨_, _, r, hc, rfl⟩
      · cases hx
    · cases hx
  · cases hx

theorem take_fst {ty : TypeId} {x : Operand} : (takeD P ty t x).1.isBox = false := takeD_fst_noBox

theorem take_box {ty : TypeId} {x : Operand} (s : Nat) (cs : List DV) : (takeD P ty t x).2[s]? = some (DV.box cs) ↔ t[s]? = some (DV.box cs) := by
  unfold takeD
  split
  · rename_i s'
    split
    · rename_i ho
      have hp := (opnd_own ho).2
      refine box_set (fun cs hcs => ?_) (by rw [shed_isBox]; revert hp; generalize opnd P ty t (.tmp s') = y; intro hp; cases y <;> first | rfl | simp [DV.plain, DV.isBox] at hp) s cs
      rw [(opnd_own ho).1] at hcs
      rw [Option.some.inj hcs] at hp
      cases hp
    · exact Iff.rfl
  · exact Iff.rfl
  · exact Iff.rfl
theorem opnd_noBox {ty : TypeId} {z : Operand} : (opnd P ty t z).isBox = false := by
  cases z with
  | tmp s =>
    simp only [opnd]
    split
    · rfl
    · rename_i w hw _
      cases w <;> first | rfl | exact (hw _ rfl).elim
    · rfl
  | const c =>
    simp only [opnd, cst]
    split
    · rfl
    · unfold c1
      split
      · rfl
      · split <;> rfl
      · rfl
  | _ => rfl
theorem take_isBox {ty : TypeId} {x : Operand} (hx : ∀ s, x = .tmp s → True) : (takeD P ty t x).1.isBox = false := by
  unfold takeD
  split
  · rename_i s'
    split
    · rename_i ho
      have hp := (opnd_own ho).2
      revert hp; generalize opnd P ty t (.tmp s') = y; intro hp; cases y <;> first | rfl | simp [DV.plain, DV.isBox] at hp
    · rw [shed_isBox]; exact opnd_noBox
  · dsimp only
    exact opnd_noBox
  · rw [shed_isBox]; exact opnd_noBox
/-- A still operation leaves memory as it is. -/
theorem eff_still (hst : still o = true) (hs : srt C f o = .hard) (hq : ∀ s, o.dst = some s → NoBox t s) (hx : opD P C f call o t h = some (t1, h1)) :
    h1 = h ∧ ∀ (s : Nat) (cs : List DV), t1[s]? = some (DV.box cs) ↔ t[s]? = some (DV.box cs) := by
  cases ho : o.op <;> simp only [still, ho] at hst <;> try (cases hst; done)
  rename_i x
  simp only [opD, ho] at hx
  have hset : ∀ v : DV, v.isBox = false → ∀ (s : Nat) (cs : List DV), (putD t o.dst v)[s]? = some (DV.box cs) ↔ t[s]? = some (DV.box cs) := fun v hv s cs => by
    cases hd : o.dst with
    | none => exact Iff.rfl
    | some d => exact box_set (hq d hd) hv s cs
  split at hx
  · cases hx
    exact ⟨rfl, hset _ rfl⟩
  split at hx
  · cases hx
    refine ⟨rfl, fun s cs => ?_⟩
    refine Iff.trans ?_ (take_box (P := P) (ty := o.type) (x := x) s cs)
    cases hd : o.dst with
    | none => exact Iff.rfl
    | some d =>
      refine box_set (fun cs hcs => hq d hd cs ?_) (take_isBox fun _ _ => trivial) s cs
      exact take_box _ _ |>.1 hcs
  · cases hx
    exact ⟨rfl, hset _ (by rw [shed_isBox]; exact opnd_noBox)⟩

theorem appendV_noBox {ty : TypeId} {x y r : DV} {h' : DHeap} (hr : appendV P ty h x y = some (r, h')) : r.isBox = false := by
  unfold appendV at hr
  split at hr
  case h_2 => cases hr
  split at hr
  case h_2 => cases hr
  split at hr
  case isFalse => cases hr
  split at hr
  · split at hr
    · split at hr
      · cases hr; rfl
      · cases hr; rfl
    · cases hr
  · split at hr
    · split at hr
      · cases hr; rfl
      · cases hr
    · cases hr
  · cases hr

theorem eff_hard (hs : srt C f o = .hard) (hq : ∀ s, o.dst = some s → NoBox t s) (hx : opD P C f call o t h = some (t1, h1)) : Mild (writes C f o) t t1 := by
  have hdst : ∀ t' : List DV, Mild (writes C f o) t t' → ∀ s, o.dst = some s → s ∈ writes C f o ∧ NoBox t' s := fun t' hm s e =>
    ⟨by simp [writes, e], (hm.noBox s).2 (hq s e)⟩
  have hput : ∀ t' : List DV, ∀ y : DV, Mild (writes C f o) t t' → y.isBox = false → Mild (writes C f o) t (putD t' o.dst y) := fun t' y hm hy => hm.trans (.put (hdst t' hm) hy)
  have htk : ∀ x ty, (∀ s ∈ tmpsOf [x], s ∈ takes C f o) → Mild (writes C f o) t (takeD P ty t x).2 := fun x ty hx => .take fun s hs => by simp [writes]; exact .inr (hx s hs)
  cases ho : o.op with
  | box ty x =>
    simp only [opD, ho, newVar] at hx
    split at hx
    · cases hd : o.dst with
      | none => simp [hd] at hx
      | some s =>
        simp only [hd] at hx
        split at hx
        · cases hx
          have := hput t (.ptr h.length 0) (.refl t) rfl
          rw [hd] at this
          exact this
        · rename_i he
          simp [srt, ho, hd, he] at hs
    · cases hx
  | alloc ty =>
    have key : ∀ z, newVar C f o.dst t h z = some (t1, h1) → Mild (writes C f o) t t1 := by
      intro z hx
      unfold newVar at hx
      split at hx
      · cases hd : o.dst with
        | none => simp [hd] at hx
        | some s =>
          simp only [hd] at hx
          split at hx
          · cases hx
            have := hput t (.ptr h.length 0) (.refl t) rfl
            rw [hd] at this
            exact this
          · rename_i he
            simp [srt, ho, hd, he] at hs
      · cases hx
    simp only [opD, ho] at hx
    split at hx
    · split at hx
      · exact key _ hx
      · cases hx
    · split at hx
      · exact key _ hx
      · cases hx
  | makeSlice ty l c =>
    simp only [opD, ho] at hx
    split at hx
    · rename_i r h2 hr
      cases hx
      refine hput t _ (.refl t) ?_
      unfold makeV at hr
      split at hr
      · split at hr
        · split at hr
          · cases hr; rfl
          · cases hr
        · cases hr
      · cases hr
    · cases hx
  | buildSlice ty n ps =>
    have hr : raws C f o.dst = true := by
      cases e : raws C f o.dst
      · simp [srt, ho, e] at hs
      · rfl
    simp only [opD, ho, hr, if_true] at hx
    split at hx
    · rename_i r h2 hr
      cases hx
      refine hput t _ (.refl t) ?_
      unfold buildV at hr
      split at hr
      · split at hr
        · split at hr
          · cases hr; rfl
          · cases hr
        · cases hr
      · cases hr
    · cases hx
  | store ty a x =>
    simp only [opD, ho] at hx
    have hk := htk x ty (by simp [takes, hs, ho])
    split at hx
    · split at hx
      · split at hx
        · rename_i t2 h2 hst
          cases hx
          exact hput _ _ (hk.trans (.store hst)) rfl
        · cases hx
      · cases hx
    · cases hx
  | build ty ps =>
    have hr : raws C f o.dst = true := by
      cases e : raws C f o.dst
      · simp [srt, ho, e] at hs
      · rfl
    simp only [opD, ho, hr, if_true] at hx
    split at hx
    · rename_i x hb
      cases hx
      refine hput t _ (.refl t) ?_
      unfold buildR at hb
      split at hb
      · split at hb
        · cases hb
        · obtain ⟨_, _, rfl⟩ := Option.map_eq_some_iff.1 hb
          rfl
      · cases hb
    · cases hx
  | makeMap ty r =>
    simp only [opD, ho] at hx
    split at hx
    · cases hx; exact hput t _ (.refl t) rfl
    · cases hx
  | mapUpdate ty m k x =>
    simp only [opD, ho] at hx
    split at hx
    · split at hx
      · split at hx
        · split at hx
          · cases hx; exact hput t _ (.refl t) rfl
          · cases hx
        · cases hx
      · cases hx
    · cases hx
  | insert ty m k x =>
    simp only [opD, ho] at hx
    split at hx
    · split at hx
      · split at hx
        · split at hx
          · cases hx; exact hput t _ (.refl t) rfl
          · cases hx
        · cases hx
      · cases hx
    · cases hx
  | move x =>
    simp only [opD, ho] at hx
    split at hx
    · cases hx; exact hput t _ (.refl t) rfl
    split at hx
    · cases hx
      exact hput _ _ (htk x o.type (by simp [takes, hs, ho])) take_fst
    · cases hx
      exact hput t _ (.refl t) (by rw [shed_isBox]; exact opnd_noBox)
  | extract x i =>
    have hxf : xfers C f o.dst = true := by
      cases e : xfers C f o.dst
      · simp [srt, ho, e] at hs
      · rfl
    simp only [opD, ho, hxf, if_true] at hx
    have h1 := htk x o.type (by simp [takes, hs, ho])
    have h2 := take_fst (P := P) (t := t) (ty := o.type) (x := x)
    generalize takeD P o.type t x = q at hx h1 h2
    obtain ⟨y, t'⟩ := q
    unfold headD at hx
    split at hx
    · rename_i y0 ys t0 heq
      cases heq
      split at hx
      · cases hx
        exact hput _ _ h1 (hd1_noBox y0)
      · cases hx
    · cases hx
  | assign x =>
    simp only [opD, ho] at hx
    split at hx
    · cases hx; exact hput t _ (.refl t) rfl
    split at hx
    · cases hx
      exact hput t _ (.refl t) (by rw [shed_isBox]; exact opnd_noBox)
    · cases hx
      exact hput _ _ (htk x o.type (by simp [takes, hs, ho])) take_fst
  | load ty a =>
    have hxf : (xfers C f o.dst || raws C f o.dst) = true := by
      cases e : (xfers C f o.dst || raws C f o.dst)
      · simp only [srt, ho, e] at hs; cases hs
      · rfl
    simp only [opD, ho] at hx
    split at hx
    · split at hx
      · split at hx
        · split at hx
          · rename_i t2 h2 hst
            cases hx
            exact hput _ _ (.store hst) rfl
          · cases hx
        · cases hx
      · split at hx
        · rename_i x hxx
          split at hx
          · cases hx
          · rename_i hnb
            cases hx
            exact hput _ _ (.refl t) (by simpa [hxf] using hnb)
        · cases hx
    · cases hx
  | call c =>
    obtain ⟨callee, args, argTypes⟩ := c
    cases callee with
    | value fv => simp [srt, ho] at hs
    | invoke r m => simp [opD, ho, calmV] at hx
    | builtin b =>
      cases b with
      | append =>
        simp only [opD, ho] at hx
        split at hx
        · rename_i x y ty ty' h0 e1 _ _ _
          split at hx
          · cases hx
          · cases hx
          · split at hx
            · split at hx
              · rename_i s r h2 hd hr
                cases hx
                have : r.isBox = false := appendV_noBox hr
                have := hput t r (.refl t) this
                rw [hd] at this
                exact this
              · cases hx
            cases hd : o.dst with
            | none => simp [hd] at hx
            | some s =>
              simp only [hd] at hx
              split at hx
              · rename_i r hr
                cases hx
                obtain ⟨e, l, m, i, _, _, _, _, _, _, _, rfl⟩ := appendD_spec hr
                have := hput _ (.list true i.size (l ++ m)) (htk x ty (by
                  intro s hs'
                  have hx0 : args.toList.take 1 = [x] := by
                    have : args.toList[0]? = some x := by simpa using h0
                    cases hl : args.toList with
                    | nil => simp [hl] at this
                    | cons a as' => simp [hl] at this; simp [this]
                  simp only [takes, hs, ho, hx0]
                  exact hs')) rfl
                rw [hd] at this
                exact this
              · cases hx
        · cases hx
      | delete =>
        simp only [opD, ho] at hx
        split at hx
        · split at hx
          · split at hx
            · split at hx
              · cases hx; exact hput t _ (.refl t) rfl
              · cases hx
            · cases hx
          · cases hx
        · cases hx
      | len => simp [srt, ho] at hs
      | max => simp [srt, ho] at hs
      | min => simp [srt, ho] at hs
      | _ => simp [opD, ho, calmV] at hx
  | makeFunc fn a b => simp [srt, ho] at hs
  | lookup _ _ _ _ => simp [srt, ho] at hs
  | _ => simp [srt, ho] at hs
end
end Go.DS

/-
  Operations of a region that do no more than fill their slot.
-/
namespace Go.DS
open Go
set_option linter.unusedVariables false
set_option linter.unusedSimpArgs false

def valX (P : Program) (C : Cfg) (f : FuncId) (o : Oper) (t : List DV) (h : DHeap) : Option DV := match o.op with
  | .box ty x => if (cellsD (opnd P ty t x).shed).all DV.cell then some (.box (cellsD (opnd P ty t x).shed)) else none
  | .alloc ty => match zeroD P ty with
    | some z => if (zcells (raws C f o.dst) z).all DV.cell then some (.box (zcells (raws C f o.dst) z)) else none
    | none => none
  | .makeFunc fn first cap => match capture P t (first.toList ++ cap.toList) with
    | some (ds, _) => some (.fn fn (ds.take first.size) (ds.drop first.size))
    | none => none
  | _ => calmV P o t h

def valW (P : Program) (C : Cfg) (f : FuncId) (ops : Array Oper) (o : Oper) (t : List DV) (h : DHeap) : Option DV := match wantedD ops o t with
  | some true => valX P C f o t h
  | some false => some (.sc undef)
  | none => none

section
variable {P : Program} {C : Cfg} {f : FuncId} {call : FuncId → List DV → DHeap → Option (DV × DHeap)} {ops : Array Oper} {rs fs : List Tmp} {o : Oper} {t t1 : List DV} {h h1 : DHeap} {d : Nat} {v : DV}

theorem noBoxAt_iff {s : Tmp} : noBoxAt t s = true ↔ NoBox t s := by
  unfold noBoxAt NoBox
  split
  · rename_i cs hc
    simp [hc]
  · rename_i hne
    exact ⟨fun _ cs hc => hne cs hc, fun _ => rfl⟩

theorem slotQ_noBox {s : Tmp} (hq : slotQ t s = true) : NoBox t s := fun cs hc => by simp [slotQ, hc, quiet] at hq
theorem slotQ_noPath {s s' : Tmp} {off : Nat} (hq : slotQ t s = true) : t[s]? ≠ some (.path s' off) := fun hc => by simp [slotQ, hc, quiet] at hq
theorem slotQ_lt {s : Tmp} (hq : slotQ t s = true) : s < t.length := by
  unfold slotQ at hq
  split at hq
  · rename_i x hx; exact (List.getElem?_eq_some_iff.1 hx).1
  · cases hq

theorem noPath_iff {s : Tmp} : noPath s t = true ↔ ∀ (k off : Nat), t[k]? ≠ some (DV.path s off) := by
  unfold noPath
  rw [List.all_eq_true]
  constructor
  · intro hh k off hk
    have := hh _ (List.mem_of_getElem? hk)
    simp at this
  · intro hh x hx
    obtain ⟨k, hk⟩ := List.mem_iff_getElem?.1 hx
    split
    · rename_i s' off
      have := hh k off
      rw [hk] at this
      simp at this ⊢
      exact this
    · rfl

theorem killPath_of_noPath {s : Tmp} (hn : noPath s t = true) : killPath s t = t := by
  rw [noPath_iff] at hn
  unfold killPath
  apply List.ext_getElem?
  intro k
  rw [List.getElem?_map]
  cases hk : t[k]? with
  | none => rfl
  | some x =>
    simp only [Option.map_some]
    split
    · rename_i s' off
      split
      · rename_i e
        subst e
        exact (hn k off hk).elim
      · rfl
    · rfl

theorem capture_same : ∀ (xs : List Operand) (t : List DV) (ds t' : List DV), (∀ s ∈ tmpsOf xs, NoBox t s) → capture P t xs = some (ds, t') → t' = t
  | [], t, ds, t', _, hc => by cases hc; rfl
  | x :: xs, t, ds, t', hn, hc => by
    cases x <;> simp only [capture] at hc <;> try (cases hc; done)
    rename_i s
    split at hc
    · rename_i cs hcs
      exact (hn s (by simp [tmpsOf]) cs hcs).elim
    · split at hc
      · split at hc
        · rename_i ds' t'' hc'
          cases hc
          exact capture_same xs t ds' _ (fun s hs => hn s (by simp [tmpsOf, hs])) hc'
        · cases hc
      · cases hc
    · cases hc

theorem capture_congr : ∀ (xs : List Operand), (∀ s ∈ tmpsOf xs, NoBox t s ∧ t1[s]? = t[s]?) → (capture P t1 xs).map (·.1) = (capture P t xs).map (·.1)
  | [], _ => rfl
  | x :: xs, hn => by
    cases x <;> try rfl
    rename_i s
    obtain ⟨hb, he⟩ := hn s (by simp [tmpsOf])
    have ih := capture_congr xs (fun s hs => hn s (by simp [tmpsOf, hs]))
    simp only [capture, he]
    cases hs : t[s]? with
    | none => rfl
    | some y =>
      cases y with
      | box cs => exact (hb cs hs).elim
      | _ =>
        dsimp only
        split
        · revert ih
          cases capture P t1 xs <;> cases capture P t xs <;> simp
        · rfl

theorem opD_soft (hs : (srt C f o).soft = true) (hp : preX C f fs o t = true) (hf : srt C f o = .func → (o.dst.toList).all fs.contains = true) :
    opD P C f call o t h = match valX P C f o t h with | some v => some (putD t o.dst v, h) | none => none := by
  simp only [preX, Bool.and_eq_true] at hp
  obtain ⟨_, hp⟩ := hp
  unfold opD valX
  cases ho : o.op with
  | box ty x =>
    cases hd : o.dst with
    | none => simp [srt, ho, hd, Srt.soft] at hs
    | some s =>
      cases he : C.esc f s
      · simp only [srt, ho, hd, he] at hp
        simp only [newVar, he, killPath_of_noPath hp, putD]
        split <;> simp
      · simp [srt, ho, hd, he, Srt.soft] at hs
  | alloc ty =>
    cases hd : o.dst with
    | none => simp [srt, ho, hd, Srt.soft] at hs
    | some s =>
      cases he : C.esc f s
      · simp only [srt, ho, hd, he] at hp
        simp only [escs, he, Bool.and_false, Bool.false_eq_true, if_false]
        cases zeroD P ty with
        | none => rfl
        | some z =>
          simp only [newVar, he, killPath_of_noPath hp, putD]
          split <;> simp
      · simp [srt, ho, hd, he, Srt.soft] at hs
  | makeFunc fn first cap =>
    have hsr : srt C f o = .func := by simp [srt, ho]
    rw [hsr] at hp
    simp only [hf hsr, if_true, List.all_eq_true] at hp
    dsimp only
    cases hc : capture P t (first.toList ++ cap.toList) with
    | none => rfl
    | some r =>
      obtain ⟨ds, t'⟩ := r
      have : t' = t := capture_same _ t ds t' (fun s hs => noBoxAt_iff.1 (hp s (by simpa [ho, Op.operands] using hs))) hc
      subst this
      rfl
  | load ty a =>
    obtain ⟨hxf, hr⟩ : xfers C f o.dst = false ∧ raws C f o.dst = false := by
      cases e : xfers C f o.dst <;> cases e2 : raws C f o.dst <;> first | exact ⟨rfl, rfl⟩ | simp [srt, ho, e, e2, Srt.soft] at hs
    simp only [hxf, hr, calmV, ho, ofCellsR]
    cases cellsAt t h (opnd P o.type t a) with
    | none => rfl
    | some cs =>
      simp
      rfl
  | move x =>
    obtain ⟨hxf, hr⟩ : xfers C f o.dst = false ∧ raws C f o.dst = false := by
      cases e : xfers C f o.dst <;> cases e2 : raws C f o.dst <;> first | exact ⟨rfl, rfl⟩ | simp [srt, ho, e, e2, Srt.soft] at hs
    simp [hxf, hr, calmV, ho]
  | call c =>
    obtain ⟨callee, args, argTypes⟩ := c
    cases callee with
    | value fv => simp [srt, ho, Srt.soft] at hs
    | invoke r m => rfl
    | builtin b =>
      cases b with
      | append => simp [srt, ho, Srt.soft] at hs
      | delete => simp [srt, ho, Srt.soft] at hs
      | _ => rfl
  | extract x i =>
    have hxf : xfers C f o.dst = false := by
      cases e : xfers C f o.dst
      · rfl
      · simp [srt, ho, e, Srt.soft] at hs
    simp only [hxf, Bool.false_eq_true, if_false]
    rfl
  | assign x =>
    obtain ⟨hxf, hr⟩ : xfers C f o.dst = true ∧ raws C f o.dst = false := by
      cases e : xfers C f o.dst <;> cases e2 : raws C f o.dst <;> first | exact ⟨rfl, rfl⟩ | simp [srt, ho, e, e2, Srt.soft] at hs
    simp [hxf, hr, calmV, ho]
  | build ty ps =>
    have hr : raws C f o.dst = false := by
      cases e : raws C f o.dst
      · rfl
      · simp [srt, ho, e, Srt.soft] at hs
    simp only [hr, Bool.false_eq_true, if_false]
    rfl
  | buildSlice ty n ps =>
    have hr : raws C f o.dst = false := by
      cases e : raws C f o.dst
      · rfl
      · simp [srt, ho, e, Srt.soft] at hs
    simp only [hr, Bool.false_eq_true, if_false]
    rfl
  | makeSlice a b c => simp [srt, ho, Srt.soft] at hs
  | store a b c => simp [srt, ho, Srt.soft] at hs
  | makeMap a b => simp [srt, ho, Srt.soft] at hs
  | mapUpdate a b c d => simp [srt, ho, Srt.soft] at hs
  | insert a b c d => simp [srt, ho, Srt.soft] at hs
  | _ => rfl

/-- What is looked at is the same, or a variable in both. -/
def Looks (ops : Array Oper) (o : Oper) (t t1 : List DV) : Prop := ∀ s ∈ o.looksAt ops, t1[s]? = t[s]? ∨ ((∃ c, t[s]? = some (.box c)) ∧ ∃ c, t1[s]? = some (.box c))

theorem looks_operand {s : Tmp} (hs : s ∈ tmpsOf o.op.operands.toList) : s ∈ o.looksAt ops := by
  rw [tmpsOf_mem] at hs
  unfold Oper.looksAt
  rw [List.mem_append]
  exact .inl (List.mem_filterMap.2 ⟨.tmp s, hs, rfl⟩)

theorem wanted_congr (hl : Looks ops o t t1) : wantedD ops o t1 = wantedD ops o t := by
  unfold wantedD
  cases hg : o.guard with
  | none => rfl
  | some g =>
    obtain ⟨j, want⟩ := g
    dsimp only
    cases hs : (ops[j]?).bind (·.dst) with
    | none => rfl
    | some s =>
      dsimp only
      have hm : s ∈ o.looksAt ops := by
        unfold Oper.looksAt
        rw [List.mem_append]
        refine .inr ?_
        rw [hg]
        simp [hs]
      rcases hl s hm with e | ⟨⟨c, hc⟩, c1, hc1⟩
      · rw [e]
      · rw [hc, hc1]

theorem valW_congr (hl : Looks ops o t t1) (ha' : wantedD ops o t = some true → Alike P o t t1 h h1) (hf : srt C f o = .func → ∀ s ∈ tmpsOf o.op.operands.toList, NoBox t s) : valW P C f ops o t1 h1 = valW P C f ops o t h := by
  unfold valW
  rw [wanted_congr hl]
  split <;> try rfl
  rename_i hw
  have ha := ha' hw
  have : valX P C f o t1 h1 = valX P C f o t h := by
    unfold valX
    have hcalm := calm_congr ha
    cases ho : o.op with
    | box ty x => simp only [ha.ops x (by simp [ho, Op.operands])]
    | alloc ty => rfl
    | makeFunc fn first cap =>
      dsimp only
      have hn := hf (by simp [srt, ho])
      have := capture_congr (P := P) (t := t) (t1 := t1) (first.toList ++ cap.toList) (fun s hs => by
        have hs' : s ∈ tmpsOf o.op.operands.toList := by simpa [ho, Op.operands] using hs
        refine ⟨hn s hs', ?_⟩
        rcases hl s (looks_operand hs') with e | ⟨⟨c, hc⟩, _⟩
        · exact e
        · exact (hn s hs' c hc).elim)
      revert this
      cases capture P t1 (first.toList ++ cap.toList) <;> cases capture P t (first.toList ++ cap.toList) <;> simp
      intro e
      rw [e]
      simp
    | _ => exact hcalm
  rw [this]
end
end Go.DS

/-
  Two steps of a drawn region change places.
-/
namespace Go.DS
open Go
set_option linter.unusedVariables false
set_option linter.unusedSimpArgs false

section
variable {P : Program} {C : Cfg} {f : FuncId} {call : FuncId → List DV → DHeap → Option (DV × DHeap)} {ops : Array Oper} {rs fs : List Tmp} {o x y : Oper} {t t1 t2 : List DV} {h h1 h2 : DHeap} {d : Nat} {v : DV}

theorem put_get {dst : Option Tmp} {s : Nat} (hs : dst ≠ some s) : (putD t dst v)[s]? = t[s]? := by
  cases dst with
  | none => rfl
  | some k => exact List.getElem?_set_ne (fun e => hs (by rw [e]))

theorem put_self {s : Nat} (hs : s < t.length) : (putD t (some s) v)[s]? = some v := by simp [putD, hs]

theorem put_len {dst : Option Tmp} : (putD t dst v).length = t.length := by cases dst <;> simp [putD]

theorem put_comm {a b : Option Tmp} {u : DV} (hn : ∀ s, a = some s → b ≠ some s) : putD (putD t a v) b u = putD (putD t b u) a v := by
  cases a with
  | none => rfl
  | some s =>
    cases b with
    | none => rfl
    | some k =>
      have : s ≠ k := fun e => hn s rfl (by rw [e])
      exact List.set_comm v u this

theorem opnd_path {ty : TypeId} {z : Operand} {s off : Nat} (hp : opnd P ty t z = .path s off) : ∃ k, z = .tmp k ∧ (t[k]? = some (.path s off) ∨ (k = s ∧ ∃ cs, t[k]? = some (.box cs))) := by
  cases z with
  | tmp k =>
    refine ⟨k, rfl, ?_⟩
    simp only [opnd] at hp
    split at hp
    · rename_i cs hc
      cases hp
      exact .inr ⟨rfl, cs, hc⟩
    · rename_i w _ hc
      subst hp
      exact .inl hc
    · cases hp
  | const c =>
    simp only [opnd, cst] at hp
    split at hp
    · cases hp
    · unfold c1 at hp
      split at hp
      · cases hp
      · split at hp <;> cases hp
      · cases hp
  | _ => cases hp

theorem look_put {dst : Option Tmp} (hd : ∀ s, dst = some s → s ∉ o.looksAt ops ∧ slotQ t s = true ∧ (v.isBox = true → noPath s t = true)) : Looks ops o t (putD t dst v) ∧ Alike P o t (putD t dst v) h h := by
  cases dst with
  | none => exact ⟨fun s _ => .inl rfl, ⟨fun _ _ _ => rfl, fun _ _ _ _ => rfl, fun _ _ _ => ⟨rfl, rfl, fun _ => rfl⟩⟩⟩
  | some s =>
    obtain ⟨h1, h2, h3⟩ := hd s rfl
    have hbox : ∀ (z : Operand), z ∈ o.op.operands.toList → ∀ (ty : TypeId) (s' off : Nat), opnd P ty t z = .path s' off → ∀ cs, (t.set s v)[s']? = some (.box cs) ↔ t[s']? = some (.box cs) := by
      intro z hz ty s' off hp cs
      cases hb : v.isBox
      · exact box_set (slotQ_noBox h2) hb s' cs
      · have : s ≠ s' := by
          intro e
          subst e
          obtain ⟨k, rfl, hk⟩ := opnd_path hp
          rcases hk with hk | ⟨rfl, _⟩
          · exact noPath_iff.1 (h3 hb) k off hk
          · exact h1 (looks_operand (tmpsOf_mem.2 hz))
        rw [List.getElem?_set_ne this]
    refine ⟨fun k hk => .inl (put_get (fun e => h1 (by cases e; exact hk))), ⟨fun z hz ty => opnd_set (tmpsOf_one hz (fun e => h1 (looks_operand e))), fun z hz ty n => moveD_eq fun s' off hp => ?_, fun z hz ty => ⟨cellsAt_eq fun s' off hp => hbox z (readOps_sub hz) ty s' off hp, rfl, fun _ => rfl⟩⟩⟩
    have := hbox z hz ty s' off hp
    exact ⟨fun ⟨cs, hc⟩ => ⟨cs, (this cs).1 hc⟩, fun ⟨cs, hc⟩ => ⟨cs, (this cs).2 hc⟩⟩

theorem opnd_looks {z : Operand} {ty : TypeId} (hz : ∀ s, z = .tmp s → t1[s]? = t[s]? ∨ ((∃ c, t[s]? = some (.box c)) ∧ ∃ c, t1[s]? = some (.box c))) : opnd P ty t1 z = opnd P ty t z := by
  cases z <;> try rfl
  rename_i s
  rcases hz s rfl with e | ⟨⟨c, hc⟩, c1, hc1⟩
  · simp only [opnd, e]
  · simp only [opnd, hc, hc1]

theorem look_mild {W : List Tmp} (hm : Mild W t t1) (hw : ∀ s ∈ W, s ∉ o.looksAt ops) : Looks ops o t t1 := fun s hs => by
  rcases hm.at_ s with e | e | ⟨e, _⟩
  · exact .inl e
  · exact .inr e
  · exact (hw s e hs).elim

theorem readOps_soft (hs : (srt C f o).soft = true) (hr : srt C f o ≠ .read) : readOps o = [] := by
  unfold readOps
  split
  · rename_i ty a ho
    cases e : (xfers C f o.dst || raws C f o.dst)
    · simp only [srt, ho, e] at hr; exact (hr rfl).elim
    · simp only [srt, ho, e] at hs; cases hs
  · rename_i ho
    simp [srt, ho] at hr
  · rfl
  · rfl
  · rename_i c hm1 hm2 ho
    obtain ⟨callee, args, argTypes⟩ := c
    cases callee with
    | value fv => simp [srt, ho, Srt.soft] at hs
    | invoke r m => simp [srt, ho, Srt.soft] at hs
    | builtin b => cases b <;> first | (simp [srt, ho, Srt.soft] at hs; done) | (simp [srt, ho] at hr; done) | exact (hm1 _ _ rfl).elim | exact (hm2 _ _ rfl).elim
  · rfl

theorem staysAt_iff : staysAt rs t = true ↔ ∀ s ∈ rs, ∀ z, t[s / 2]? = some z → chk s z = true := by
  unfold staysAt
  rw [List.all_eq_true]
  constructor
  · intro hh s hs z hz
    have := hh s hs
    rw [hz] at this
    exact this
  · intro hh s hs
    split
    · rename_i z hz
      exact hh s hs z hz
    · rfl

theorem halves (s : Nat) : 2 * s / 2 = s ∧ 2 * s % 2 = 0 ∧ (2 * s + 1) / 2 = s ∧ (2 * s + 1) % 2 = 1 := by omega
theorem stays_slot (hst : staysAt rs t = true) {s : Tmp} (hs : saw rs s = true) {z : DV} (hz : t[s]? = some z) : stays z = true := by
  obtain ⟨q1, q2, q3, q4⟩ := halves s
  have h := staysAt_iff.1 hst (2 * s) (by simpa [saw] using hs) z (by rw [q1]; exact hz)
  unfold chk at h
  rwa [if_pos q2] at h
theorem quiet_slot (hst : staysAt rs t = true) {s : Tmp} (hs : sawQ rs s = true) {z : DV} (hz : t[s]? = some z) : quiet z = true := by
  obtain ⟨q1, q2, q3, q4⟩ := halves s
  have h := staysAt_iff.1 hst (2 * s + 1) (by simpa [sawQ] using hs) z (by rw [q3]; exact hz)
  unfold chk at h
  rwa [if_neg (by rw [q4]; exact Nat.one_ne_zero)] at h
theorem chk_sc (c : Nat) (v : Value) : chk c (.sc v) = true := by unfold chk; split <;> rfl
theorem stays_opnd {z : Operand} {ty : TypeId} (hz : ∀ s, z = .tmp s → ∀ w, t[s]? = some w → stays w = true) : stays (opnd P ty t z) = true := by
  cases z with
  | tmp s =>
    simp only [opnd]
    split
    · rfl
    · rename_i w _ hc
      exact hz s rfl _ hc
    · rfl
  | const c =>
    simp only [opnd, cst]
    split
    · rfl
    · unfold c1
      split
      · rfl
      · split <;> rfl
      · rfl
  | _ => rfl

theorem mapAt_stays {p : DV} (hp : stays p = true) : mapAt h1 p = mapAt h p := by
  cases p with
  | sc v =>
    cases v <;> try rfl
    rename_i m
    cases m <;> rfl
  | mp i => cases hp
  | _ => rfl
theorem lenD_stays {p : DV} {ty : TypeId} (hp : stays p = true) : lenD P ty h1 p = lenD P ty h p := by
  cases p with
  | sc v =>
    cases v <;> try rfl
    · rename_i ad n c
      cases ad <;> try rfl
      cases n <;> try rfl
      cases c <;> rfl
    · rename_i m
      cases m <;> rfl
  | mp i => cases hp
  | _ => rfl
theorem cellsAt_stays {p : DV} (hp : stays p = true) : cellsAt t h1 p = cellsAt t h p := by cases p <;> first | rfl | cases hp

/-- A soft operation sees the same behind a call, or behind what is no call if it does not look at memory. -/
theorem alike_mild {W : List Tmp} (hm : Mild W t t1) (hw : ∀ s ∈ W, s ∉ o.looksAt ops) (hs : (srt C f o).soft = true)
    (hr : srt C f o = .read → ((h1 = h ∨ (∀ s ∈ o.looksAt ops, saw rs s = true) ∧ staysAt rs t = true) ∧ ∀ (s : Nat) (cs : List DV), t1[s]? = some (DV.box cs) ↔ t[s]? = some (DV.box cs)) ∨ h1 = h ∧ (∀ s ∈ o.looksAt ops, sawQ rs s = true) ∧ staysAt rs t = true) : Alike P o t t1 h h1 where
  ops z hz ty := opnd_looks fun s e => look_mild hm hw s (looks_operand (tmpsOf_mem.2 (e ▸ hz)))
  mv z hz ty n := moveD_eq fun s off _ => hm.box s
  rd z hz ty := by
    by_cases hrd : srt C f o = .read
    · rcases hr hrd with ⟨ab, c⟩ | ⟨rfl, a, b⟩
      rotate_left
      · have hq : ∀ s off, opnd P ty t z ≠ .path s off := fun s off hp => by
          obtain ⟨k, rfl, hk⟩ := opnd_path hp
          have hs := a k (looks_operand (tmpsOf_mem.2 (readOps_sub hz)))
          rcases hk with hk | ⟨rfl, cs, hk⟩
          · have := quiet_slot b hs hk; cases this
          · have := quiet_slot b hs hk; cases this
        exact ⟨cellsAt_eq fun s off hp => (hq s off hp).elim, rfl, fun _ => rfl⟩
      rcases ab with rfl | ⟨a, b⟩
      · exact ⟨cellsAt_eq fun s off _ cs => c s cs, rfl, fun _ => rfl⟩
      have hst : stays (opnd P ty t z) = true := stays_opnd fun s e w hw' => stays_slot b (a s (looks_operand (tmpsOf_mem.2 (e ▸ readOps_sub hz)))) hw'
      refine ⟨?_, mapAt_stays hst, fun _ => lenD_stays hst⟩
      rw [cellsAt_stays (h := h) hst]
      exact cellsAt_eq fun s off _ cs => c s cs
    · rw [readOps_soft hs hrd] at hz
      cases hz

theorem preX_congr (hp : preX C f fs o t = true) (hd : ∀ s, o.dst = some s → t1[s]? = t[s]?) (hn : srt C f o = .new → ∀ s, o.dst = some s → noPath s t = true → noPath s t1 = true)
    (hb : srt C f o = .func → ∀ s ∈ tmpsOf o.op.operands.toList, NoBox t s → NoBox t1 s) : preX C f fs o t1 = true := by
  simp only [preX, Bool.and_eq_true] at hp ⊢
  refine ⟨?_, ?_⟩
  · have := hp.1
    cases e : o.dst with
    | none => rfl
    | some s =>
      rw [e] at this
      simpa only [slotQ, hd s e] using this
  · have := hp.2
    cases e : srt C f o <;> rw [e] at this <;> try exact this
    · cases e' : o.dst with
      | none => rw [e'] at this; exact this
      | some s => rw [e'] at this; exact hn e s e' this
    · dsimp only at this ⊢
      split
      · rename_i hc
        rw [if_pos hc, List.all_eq_true] at this
        rw [List.all_eq_true]
        exact fun s hs => noBoxAt_iff.2 (hb e s hs (noBoxAt_iff.1 (this s hs)))
      · rfl

theorem pathFrom_congr (ht : ∀ s ∈ tmpsOf o.op.operands.toList, ∀ s' off, t[s]? = some (.path s' off) → t1[s]? = some (.path s' off)) (hp : pathFrom C f o t v = true) : pathFrom C f o t1 v = true := by
  unfold pathFrom at *
  split
  · rename_i s' off
    simp only [List.any_eq_true] at hp ⊢
    obtain ⟨s, hs, hh⟩ := hp
    refine ⟨s, hs, ?_⟩
    rw [Bool.or_eq_true] at hh ⊢
    rcases hh with hh | hh
    · exact .inl hh
    · refine .inr ?_
      split at hh
      · rename_i s'' off' hc
        rw [ht s hs _ _ hc]
        exact hh
      · cases hh
  · exact hp
  · rfl

theorem pathsAt_iff : pathsAt C f o t t1 = true ↔ ∀ s, o.dst = some s → ∀ z, t1[s]? = some z → pathFrom C f o t z = true := by
  unfold pathsAt
  cases e : o.dst with
  | none => simp
  | some s =>
    dsimp only
    cases hc : t1[s]? with
    | none => simp [hc]
    | some z => simp [hc]

theorem step_inv (hs : stepX P C f call ops rs fs o t h = some (t1, h1)) : preX C f fs o t = true ∧
    ((wantedD ops o t = some true ∧ opD P C f call o t h = some (t1, h1) ∧ staysAt rs t1 = true ∧ pathsAt C f o t t1 = true) ∨ (wantedD ops o t = some false ∧ t1 = putD t o.dst (.sc undef) ∧ h1 = h)) := by
  unfold stepX at hs
  split at hs
  · rename_i hp
    refine ⟨hp, ?_⟩
    split at hs
    · rename_i hw
      split at hs
      · rename_i ta ha hop
        split at hs
        · rename_i hc
          cases hs
          rw [Bool.and_eq_true] at hc
          exact .inl ⟨hw, hop, hc.1, hc.2⟩
        · cases hs
      · cases hs
    · rename_i hw
      cases hs
      exact .inr ⟨hw, rfl, rfl⟩
    · cases hs
  · cases hs

theorem step_mk (hp : preX C f fs o t = true) (hw : wantedD ops o t = some true) (hop : opD P C f call o t h = some (t1, h1)) (h3 : staysAt rs t1 = true) (h4 : pathsAt C f o t t1 = true) :
    stepX P C f call ops rs fs o t h = some (t1, h1) := by
  unfold stepX
  simp [hp, hw, hop, h3, h4]

theorem stays_put {dst : Option Tmp} (hst : staysAt rs t = true) (hv : ∀ s, dst = some (s / 2) → s ∈ rs → chk s v = true) : staysAt rs (putD t dst v) = true := by
  rw [staysAt_iff] at *
  intro s hs z hz
  by_cases e : dst = some (s / 2)
  · subst e
    have hlt : s / 2 < t.length := by
      have := (List.getElem?_eq_some_iff.1 hz).1
      rwa [put_len] at this
    rw [put_self hlt] at hz
    cases hz
    exact hv s rfl hs
  · rw [put_get e] at hz
    exact hst s hs z hz

theorem step_stays (hst : staysAt rs t = true) (hs : stepX P C f call ops rs fs o t h = some (t1, h1)) : staysAt rs t1 = true := by
  obtain ⟨_, ⟨_, _, h3, _⟩ | ⟨_, rfl, _⟩⟩ := step_inv hs
  · exact h3
  · exact stays_put hst fun _ _ _ => chk_sc _ _

/-- A step that does no more than fill its slot. -/
def Lone (C : Cfg) (f : FuncId) (ops : Array Oper) (o : Oper) (t : List DV) : Prop := (srt C f o).soft = true ∨ wantedD ops o t = some false

theorem preX_slot (hp : preX C f fs o t = true) {s : Tmp} (hd : o.dst = some s) : slotQ t s = true := by
  simp only [preX, Bool.and_eq_true, hd] at hp
  exact hp.1

theorem preX_new (hp : preX C f fs o t = true) (hn : srt C f o = .new) {s : Tmp} (hd : o.dst = some s) : noPath s t = true := by
  simp only [preX, Bool.and_eq_true, hd, hn] at hp
  exact hp.2

theorem preX_func (hp : preX C f fs o t = true) (hn : srt C f o = .func) (hf : (o.dst.toList).all fs.contains = true) {s : Tmp} (hs : s ∈ tmpsOf o.op.operands.toList) : NoBox t s := by
  simp only [preX, Bool.and_eq_true, hn, hf, if_true, List.all_eq_true] at hp
  exact noBoxAt_iff.1 (hp.2 s hs)

theorem lone_inv (hl : Lone C f ops o t) (hf : srt C f o = .func → (o.dst.toList).all fs.contains = true) (hs : stepX P C f call ops rs fs o t h = some (t1, h1)) :
    ∃ v, valW P C f ops o t h = some v ∧ t1 = putD t o.dst v ∧ h1 = h ∧ (∀ s, o.dst = some s → pathFrom C f o t v = true) := by
  obtain ⟨hp, ⟨hw, hop, _, h4⟩ | ⟨hw, rfl, rfl⟩⟩ := step_inv hs
  · have hsoft : (srt C f o).soft = true := by
      rcases hl with hl | hl
      · exact hl
      · rw [hw] at hl; cases hl
    rw [opD_soft hsoft hp hf] at hop
    split at hop
    · rename_i v hv
      cases hop
      refine ⟨v, by simp [valW, hw, hv], rfl, rfl, fun s hd => ?_⟩
      refine pathsAt_iff.1 h4 s hd v ?_
      rw [hd]
      exact put_self (slotQ_lt (preX_slot hp hd))
    · cases hop
  · exact ⟨_, by simp [valW, hw], rfl, rfl, fun _ _ => rfl⟩

theorem lone_mk (hl : Lone C f ops o t) (hf : srt C f o = .func → (o.dst.toList).all fs.contains = true) (hp : preX C f fs o t = true) (hv : valW P C f ops o t h = some v)
    (h3 : staysAt rs (putD t o.dst v) = true) (h4 : ∀ s, o.dst = some s → pathFrom C f o t v = true) : stepX P C f call ops rs fs o t h = some (putD t o.dst v, h) := by
  unfold valW at hv
  split at hv
  · rename_i hw
    have hsoft : (srt C f o).soft = true := by
      rcases hl with hl | hl
      · exact hl
      · rw [hw] at hl; cases hl
    refine step_mk hp hw ?_ h3 (pathsAt_iff.2 fun s hd z hz => ?_)
    · rw [opD_soft hsoft hp hf, hv]
    · rw [hd, put_self (slotQ_lt (preX_slot hp hd))] at hz
      cases hz
      exact h4 s hd
  · rename_i hw
    cases hv
    unfold stepX
    simp [hp, hw]
  · cases hv
end
end Go.DS

/-
  Two steps of a drawn region change places: the law.
-/
namespace Go.DS
open Go
set_option linter.unusedVariables false
set_option linter.unusedSimpArgs false

section
variable {P : Program} {C : Cfg} {f : FuncId} {call : FuncId → List DV → DHeap → Option (DV × DHeap)} {ops : Array Oper} {rs fs : List Tmp} {o x y : Oper} {t t1 t2 : List DV} {h h1 h2 : DHeap} {d : Nat} {v : DV}

theorem noneIn_iff {xs ys : List Tmp} : noneIn xs ys = true ↔ ∀ s ∈ xs, s ∉ ys := by
  simp [noneIn, List.all_eq_true]

structure Apart (C : Cfg) (f : FuncId) (ops : Array Oper) (rs fs : List Tmp) (x y : Oper) : Prop where
  xy : ∀ s ∈ writes C f x, s ∉ y.looksAt ops
  yx : ∀ s ∈ writes C f y, s ∉ x.looksAt ops
  ww : ∀ s ∈ writes C f x, s ∉ writes C f y
  rc : srt C f x = .read → srt C f y = .call → calmCall C y = true ∨ ∀ s ∈ x.looksAt ops, saw rs s = true
  cr : srt C f x = .call → srt C f y = .read → calmCall C x = true ∨ ∀ s ∈ y.looksAt ops, saw rs s = true
  hx : srt C f x = .hard → srt C f y = .calm ∨ srt C f y = .func ∨ srt C f y = .read ∧ (still x = true ∨ memOK ops rs y x = true)
  hy : srt C f y = .hard → srt C f x = .calm ∨ srt C f x = .func ∨ srt C f x = .read ∧ (still y = true ∨ memOK ops rs x y = true)
  cc : srt C f x = .call → srt C f y ≠ .call
  fx : srt C f x = .func → (x.dst.toList).all fs.contains = true
  fy : srt C f y = .func → (y.dst.toList).all fs.contains = true

theorem apart_of (hm : mayPass C f ops rs fs x y = true) (hns : ¬ (srt C f x = .call ∧ srt C f y = .hard)) (hns' : ¬ (srt C f x = .hard ∧ srt C f y = .call)) : Apart C f ops rs fs x y := by
  simp only [mayPass, Bool.and_eq_true, noneIn_iff] at hm
  obtain ⟨⟨⟨⟨⟨a, b⟩, c⟩, d⟩, e⟩, g⟩ := hm
  refine ⟨a, b, c, fun h1 h2 => ?_, fun h1 h2 => ?_, fun h1 => ?_, fun h1 => ?_, fun h1 h2 => ?_, fun h1 => ?_, fun h1 => ?_⟩
  · rw [h1, h2] at d
    simpa [List.all_eq_true, Bool.or_eq_true] using d
  · rw [h1, h2] at d
    simpa [List.all_eq_true, Bool.or_eq_true] using d
  · rw [h1] at d
    cases hh : srt C f y <;> rw [hh] at d <;> simp at d ⊢ <;> first | exact d | exact hns' ⟨h1, hh⟩
  · rw [h1] at d
    cases hh : srt C f x <;> rw [hh] at d <;> simp at d ⊢ <;> first | exact d | exact hns ⟨hh, h1⟩
  · rw [h1, h2] at d
    cases d
  · rw [h1] at e; exact e
  · rw [h1] at g; exact g

theorem parts_of (hm : mayPass C f ops rs fs x y = true) : (∀ s ∈ writes C f x, s ∉ y.looksAt ops) ∧ (∀ s ∈ writes C f y, s ∉ x.looksAt ops) ∧ (∀ s ∈ writes C f x, s ∉ writes C f y) ∧
    (match srt C f x, srt C f y with
    | .read, .call => calmCall C y || (x.looksAt ops).all (saw rs)
    | .call, .read => calmCall C x || (y.looksAt ops).all (saw rs)
    | .read, .hard => still y || memOK ops rs x y
    | .hard, .read => still x || memOK ops rs y x
    | .new, .hard | .hard, .new => false
    | .call, .hard => still y && x.guard.isNone && y.guard.isNone
    | .hard, .call => still x && x.guard.isNone && y.guard.isNone
    | .call, .call | .hard, .hard => false
    | _, _ => true) = true := by
  simp only [mayPass, Bool.and_eq_true, noneIn_iff] at hm
  obtain ⟨⟨⟨⟨⟨a, b⟩, c⟩, d⟩, e⟩, g⟩ := hm
  exact ⟨a, b, c, d⟩
theorem call_of_srt (hs : srt C f o = .call) : ∃ fv args argTypes, o.op = .call { callee := .value fv, args, argTypes } := by
  unfold srt at hs
  split at hs <;> try (cases hs; done)
  · split at hs
    · split at hs <;> cases hs
    · cases hs
  · split at hs
    · split at hs <;> cases hs
    · cases hs
  · rename_i fv args argTypes ho
    exact ⟨fv, args, argTypes, ho⟩
  · split at hs <;> cases hs
  · split at hs <;> cases hs
  · split at hs <;> cases hs
  · split at hs <;> cases hs
  · split at hs <;> cases hs
  · split at hs <;> cases hs

theorem callD_set (hs : srt C f o = .call) (hd : d ∉ tmpsOf o.op.operands.toList) (hdst : o.dst ≠ some d) : opD P C f call o (t.set d v) h = (opD P C f call o t h).map fun r => (r.1.set d v, r.2) := by
  obtain ⟨fv, args, argTypes, ho⟩ := call_of_srt hs
  have hop : ∀ x ∈ o.op.operands.toList, ∀ ty, opnd P ty (t.set d v) x = opnd P ty t x := fun x hx ty => opnd_set (tmpsOf_one hx hd)
  have hargs : ∀ x ∈ args.toList, x ∈ o.op.operands.toList := fun x hx => by simp [ho, Op.operands, Call.operands] at hx ⊢; exact .inr hx
  simp only [opD, ho]
  have ha : ∀ raw, argsD P raw (t.set d v) args.toList argTypes.toList = argsD P raw t args.toList argTypes.toList := fun raw => argsD_set raw args.toList argTypes.toList (fun e => hd (by rw [tmpsOf_mem] at *; exact hargs _ e))
  simp only [hop fv (by simp [ho, Op.operands, Call.operands]), ha]
  split
  · split
    · split
      · simp [putD_set hdst]
      · rfl
    · rfl
  · rfl

theorem opD_put {dst : Option Tmp} (hn : srt C f o ≠ .new) (hd : ∀ s, dst = some s → s ∉ o.looksAt ops ∧ o.dst ≠ some s ∧ (srt C f o = .call ∨ (NoBox t s ∧ v.isBox = false))) :
    opD P C f call o (putD t dst v) h = (opD P C f call o t h).map fun r => (putD r.1 dst v, r.2) := by
  cases dst with
  | none => simp [putD]
  | some s =>
    obtain ⟨a, b, c⟩ := hd s rfl
    have a' : s ∉ tmpsOf o.op.operands.toList := fun e => a (looks_operand e)
    rcases c with c | ⟨c1, c2⟩
    · exact callD_set c a' b
    · exact opD_set a' b c1 c2 (fun e => (hn e).elim)

def Plain (C : Cfg) (call : FuncId → List DV → DHeap → Option (DV × DHeap)) : Prop := ∀ k xs h r h', call k xs h = some (r, h') → r.plain = true ∧ (C.pure k = true → C.ext k = none → h' = h) ∧ (C.look k = true → h' = h)
/-- A call of a function that runs on a heap of its own leaves the heap as it is. -/
theorem calm_heap (hplain : Plain C call) (hc : calmCall C o = true) (hx : opD P C f call o t h = some (t1, h1)) : h1 = h := by
  unfold calmCall at hc
  split at hc
  · rename_i k args argTypes ho
    simp only [Bool.or_eq_true, Bool.and_eq_true, Option.isNone_iff_eq_none] at hc
    simp only [opD, ho, opnd] at hx
    split at hx
    · split at hx
      · rename_i r h2 hk
        cases hx
        rcases hc with hc | hc
        · exact (hplain _ _ _ _ _ hk).2.1 hc.1 hc.2
        · exact (hplain _ _ _ _ _ hk).2.2 hc
      · cases hx
    · cases hx
  · cases hc

theorem plain_box {r : DV} (hr : r.plain = true) : r.isBox = false := by simp [DV.plain] at hr; exact hr.1
theorem plain_path {r : DV} (hr : r.plain = true) {s off : Nat} : r ≠ .path s off := by rintro rfl; simp [DV.plain, DV.isPath] at hr

theorem dst_writes {s : Tmp} (hd : o.dst = some s) : s ∈ writes C f o := by simp [writes, hd]

/-- What a call, or what is no call, leaves. -/
theorem eff_op (hplain : Plain C call) (hs : (srt C f o).soft = false) (hp : preX C f fs o t = true) (hx : opD P C f call o t h = some (t1, h1)) :
    Mild (writes C f o) t t1 ∧ (srt C f o = .call → ∃ r, t1 = putD t o.dst r ∧ r.plain = true ∧ ∀ (s : Nat) (cs : List DV), t1[s]? = some (DV.box cs) ↔ t[s]? = some (DV.box cs)) := by
  cases hsr : srt C f o <;> rw [hsr] at hs <;> simp [Srt.soft] at hs
  · obtain ⟨fv, args, argTypes, ho⟩ := call_of_srt hsr
    obtain ⟨k, xs, r, hc, rfl⟩ := eff_call ho hx
    have hr := (hplain _ _ _ _ _ hc).1
    refine ⟨.put (fun s hd => ⟨dst_writes hd, slotQ_noBox (preX_slot hp hd)⟩) (plain_box hr), fun _ => ⟨r, rfl, hr, fun s cs => ?_⟩⟩
    cases hd : o.dst with
    | none => exact Iff.rfl
    | some s' => exact box_set (slotQ_noBox (preX_slot hp hd)) (plain_box hr) s cs
  · exact ⟨eff_hard hsr (fun s hd => slotQ_noBox (preX_slot hp hd)) hx, fun e => by cases e⟩

/-- What a taking that leaves memory as it is does, wherever its operand is the same. -/
theorem still_eff (hst : still o = true) (hs : srt C f o = .hard) (hx : opD P C f call o t h = some (t1, h1)) :
    h1 = h ∧ ∃ (src : Option Tmp) (sh u : DV), t1 = putD (putD t src sh) o.dst u ∧ (∀ s, src = some s → s ∈ takes C f o ∧ NoBox t s) ∧ sh.isBox = false ∧ u.isBox = false ∧
      ∀ (t' : List DV) (h' : DHeap), (∀ s ∈ tmpsOf o.op.operands.toList, t'[s]? = t[s]?) → opD P C f call o t' h' = some (putD (putD t' src sh) o.dst u, h') := by
  cases ho : o.op <;> simp only [still, ho] at hst <;> try (cases hst; done)
  rename_i z
  have htk : takes C f o = tmpsOf [z] := by simp [takes, hs, ho]
  cases hrn : (raws C f o.dst && rawNil z)
  case true =>
    simp only [opD, ho, hrn, if_true] at hx
    cases hx
    exact ⟨rfl, none, .junk, _, rfl, fun s' e => (by cases e), rfl, rfl, fun t' h' ht => by simp only [opD, ho, hrn, if_true]; rfl⟩
  cases hxf : xfers C f o.dst
  case false =>
    simp only [opD, ho, hrn, hxf, Bool.false_eq_true, if_false] at hx
    cases hx
    refine ⟨rfl, none, .junk, _, rfl, fun s' e => (by cases e), rfl, by rw [shed_isBox]; exact opnd_noBox, fun t' h' ht => ?_⟩
    have e3 : opnd P o.type t' z = opnd P o.type t z := by
      cases z with
      | tmp s => simp only [opnd, ht s (by simp [Op.operands, tmpsOf])]
      | _ => rfl
    simp only [opD, ho, hrn, hxf, Bool.false_eq_true, if_false, e3]
    rfl
  simp only [opD, ho, hrn, hxf, if_true, Bool.false_eq_true, if_false] at hx
  cases hx
  refine ⟨rfl, ?_⟩
  cases z with
  | tmp s =>
    have hop : ∀ t' : List DV, t'[s]? = t[s]? → opnd P o.type t' (.tmp s) = opnd P o.type t (.tmp s) := fun t' e => by simp only [opnd, e]
    by_cases hown : (own1 (opnd P o.type t (.tmp s))).isSome = true
    · obtain ⟨e1, e2⟩ := opnd_own hown
      refine ⟨some s, (opnd P o.type t (.tmp s)).shed, opnd P o.type t (.tmp s), by simp [takeD, hown, putD], fun s' e => ?_, ?_, opnd_noBox, fun t' h' ht => ?_⟩
      · cases e
        refine ⟨by rw [htk]; simp [tmpsOf], fun cs hc => ?_⟩
        rw [e1] at hc
        cases hc' : opnd P o.type t (.tmp s) <;> rw [hc'] at hc e2 <;> cases hc
        simp [DV.plain, DV.isBox] at e2
      · rw [shed_isBox]; exact opnd_noBox
      · have e3 := hop t' (ht s (by simp [Op.operands, tmpsOf]))
        simp only [opD, ho, hrn, hxf, Bool.false_eq_true, if_false, if_true, takeD, e3, hown, putD]
    · refine ⟨none, .junk, (opnd P o.type t (.tmp s)).shed, by simp [takeD, hown, putD], fun s' e => (by cases e), rfl, by rw [shed_isBox]; exact opnd_noBox, fun t' h' ht => ?_⟩
      have e3 := hop t' (ht s (by simp [Op.operands, tmpsOf]))
      simp only [opD, ho, hrn, hxf, Bool.false_eq_true, if_false, if_true, takeD, e3, hown, putD]
  | const v => exact ⟨none, .junk, _, rfl, fun s' e => (by cases e), rfl, take_isBox fun _ _ => trivial, fun t' h' ht => by simp only [opD, ho, hrn, hxf, Bool.false_eq_true, if_false, if_true]; rfl⟩
  | global g => exact ⟨none, .junk, _, rfl, fun s' e => (by cases e), rfl, take_isBox fun _ _ => trivial, fun t' h' ht => by simp only [opD, ho, hrn, hxf, Bool.false_eq_true, if_false, if_true]; rfl⟩
  | func g => exact ⟨none, .junk, _, rfl, fun s' e => (by cases e), rfl, take_isBox fun _ _ => trivial, fun t' h' ht => by simp only [opD, ho, hrn, hxf, Bool.false_eq_true, if_false, if_true]; rfl⟩
theorem store_mem {p : DV} {new : List DV} (hs : storeD t h p new = some (t1, h1)) : ((∀ s off, p ≠ .path s off) → t1 = t) ∧ (stays p = true → h1 = h) := by
  unfold storeD at hs
  split at hs
  · split at hs
    · rename_i s off
      split at hs
      · split at hs
        · cases hs; exact ⟨fun hp => (hp _ _ rfl).elim, fun _ => rfl⟩
        · cases hs
      · cases hs
    · split at hs
      · split at hs
        · cases hs; exact ⟨fun _ => rfl, fun e => nomatch e⟩
        · cases hs
      · cases hs
    · split at hs
      · split at hs
        · cases hs; exact ⟨fun _ => rfl, fun e => nomatch e⟩
        · cases hs
      · cases hs
    · cases hs
  · cases hs
theorem put_box {dst : Option Tmp} (hq : ∀ s, dst = some s → NoBox t s) (hv : v.isBox = false) (s : Nat) (cs : List DV) : (putD t dst v)[s]? = some (.box cs) ↔ t[s]? = some (.box cs) := by
  cases dst with
  | none => exact Iff.rfl
  | some d => exact box_set (hq d rfl) hv s cs
/-- What changes memory apart from what is looked at. -/
theorem eff_mem (hm : memOK ops rs x y = true) (hst : staysAt rs t = true) (hs : srt C f y = .hard) (hq : ∀ s, y.dst = some s → NoBox t s) (hx : opD P C f call y t h = some (t1, h1)) :
    ((h1 = h ∨ (∀ s ∈ x.looksAt ops, saw rs s = true) ∧ staysAt rs t = true) ∧ ∀ (s : Nat) (cs : List DV), t1[s]? = some (DV.box cs) ↔ t[s]? = some (DV.box cs)) ∨ h1 = h ∧ (∀ s ∈ x.looksAt ops, sawQ rs s = true) ∧ staysAt rs t = true := by
  have key : ∀ (l : List Tmp) (z : Operand) (ty : TypeId), adr y = some l → l = tmpsOf [z] → (∀ s ∈ x.looksAt ops, saw rs s = true) ∧ (∀ s off, opnd P ty t z ≠ .path s off) ∨ (∀ s ∈ x.looksAt ops, sawQ rs s = true) ∧ stays (opnd P ty t z) = true := by
    intro l z ty hl e
    unfold memOK at hm
    rw [hl] at hm
    simp only [Bool.or_eq_true, Bool.and_eq_true, List.all_eq_true] at hm
    subst e
    rcases hm with ⟨a, b⟩ | ⟨a, b⟩
    · refine .inl ⟨a, fun s off hp => ?_⟩
      obtain ⟨k, rfl, hk⟩ := opnd_path hp
      have hs := b k (by simp [tmpsOf])
      rcases hk with hk | ⟨rfl, cs, hk⟩
      · have := quiet_slot hst hs hk; cases this
      · have := quiet_slot hst hs hk; cases this
    · exact .inr ⟨a, stays_opnd fun s e w hw => stays_slot hst (b s (by subst e; simp [tmpsOf])) hw⟩
  cases ho : y.op <;> (try (simp only [memOK, adr, ho] at hm; cases hm; done))
  · rename_i ty a
    have hxf : (xfers C f y.dst || raws C f y.dst) = true := by
      cases e : (xfers C f y.dst || raws C f y.dst)
      · simp only [srt, ho, e] at hs; cases hs
      · rfl
    have K := key _ a y.type (by simp [adr, ho]) rfl
    simp only [opD, ho] at hx
    split at hx
    · rename_i cs hcs
      split at hx
      · split at hx
        · rename_i es l hown
          split at hx
          · rename_i t' h' hsd
            cases hx
            obtain ⟨m1, m2⟩ := store_mem hsd
            rcases K with ⟨k1, k2⟩ | ⟨k1, k2⟩
            · obtain rfl := m1 k2
              exact .inl ⟨.inr ⟨k1, hst⟩, put_box hq rfl⟩
            · exact .inr ⟨m2 k2, k1, hst⟩
          · cases hx
        · cases hx
      · split at hx
        · rename_i v hv
          split at hx
          · cases hx
          · rename_i hb
            cases hx
            have hb' : v.isBox = false := by
              cases e : v.isBox
              · rfl
              · exact (hb ⟨hxf, e⟩).elim
            rcases K with ⟨k1, k2⟩ | ⟨k1, k2⟩
            · exact .inl ⟨.inl rfl, put_box hq hb'⟩
            · exact .inr ⟨rfl, k1, hst⟩
        · cases hx
    · cases hx
  · rename_i ty a z
    have K := key _ a y.type (by simp [adr, ho]) rfl
    simp only [opD, ho] at hx
    have hbx := take_box (P := P) (t := t) (ty := ty) (x := z)
    generalize hd : takeD P ty t z = r at hx hbx
    obtain ⟨d, t'⟩ := r
    dsimp only at hx hbx
    split at hx
    · split at hx
      · split at hx
        · rename_i t'' h' hsd
          cases hx
          obtain ⟨m1, m2⟩ := store_mem hsd
          rcases K with ⟨k1, k2⟩ | ⟨k1, k2⟩
          · obtain rfl := m1 k2
            refine .inl ⟨.inr ⟨k1, hst⟩, fun s cs => (put_box (fun s e cs hcs => hq s e cs ((hbx s cs).1 hcs)) rfl s cs).trans (hbx s cs)⟩
          · exact .inr ⟨m2 k2, k1, hst⟩
        · cases hx
      · cases hx
    · cases hx
theorem want_none (hg : o.guard = none) : wantedD ops o t = some true := by unfold wantedD; rw [hg]
theorem step_want (hg : o.guard = none) (hs : stepX P C f call ops rs fs o t h = some (t1, h1)) : preX C f fs o t = true ∧ opD P C f call o t h = some (t1, h1) ∧ staysAt rs t1 = true ∧ pathsAt C f o t t1 = true := by
  obtain ⟨a, ⟨_, b⟩ | ⟨w, _, _⟩⟩ := step_inv hs
  · exact ⟨a, b⟩
  · rw [want_none hg] at w; cases w
theorem looks_none (hg : o.guard = none) {s : Tmp} (hs : s ∈ o.looksAt ops) : s ∈ tmpsOf o.op.operands.toList := by
  unfold Oper.looksAt at hs
  rw [hg, List.mem_append] at hs
  rcases hs with hs | hs
  · obtain ⟨z, hz, e⟩ := List.mem_filterMap.1 hs
    rw [tmpsOf_mem]
    cases z <;> simp at e
    subst e; exact hz
  · simp at hs
/-- A call and a taking that leaves memory as it is change places. -/
theorem swap_cs (hplain : Plain C call) (cx : srt C f x = .call) (hy0 : srt C f y = .hard) (hsy : still y = true) (gx : x.guard = none) (gy : y.guard = none)
    (a : ∀ s ∈ writes C f x, s ∉ y.looksAt ops) (b : ∀ s ∈ writes C f y, s ∉ x.looksAt ops) (c : ∀ s ∈ writes C f x, s ∉ writes C f y) (hst : staysAt rs t = true)
    (hx : stepX P C f call ops rs fs x t h = some (t1, h1)) (hy : stepX P C f call ops rs fs y t1 h1 = some (t2, h2)) :
    ∃ t' h', stepX P C f call ops rs fs y t h = some (t', h') ∧ stepX P C f call ops rs fs x t' h' = some (t2, h2) := by
  obtain ⟨hpx, ox, s1, p1⟩ := step_want gx hx
  obtain ⟨hpy, oy, s2, p2⟩ := step_want gy hy
  obtain ⟨_, hcall⟩ := eff_op hplain (by rw [cx]; rfl) hpx ox
  obtain ⟨r, rfl, hr, _⟩ := hcall cx
  obtain ⟨rfl, src, sh, u, rfl, q1, q2, q3, q4⟩ := still_eff hsy hy0 oy
  have hyt : ∀ s ∈ tmpsOf y.op.operands.toList, t[s]? = (putD t x.dst r)[s]? := fun s hs => (put_get (fun e => a s (dst_writes e) (looks_operand hs))).symm
  have oy' := q4 t h hyt
  have hxs : ∀ s, x.dst = some s → s ∉ writes C f y := fun s e => c s (dst_writes e)
  have hsrc : ∀ s, src = some s → s ∈ writes C f y := fun s e => by unfold writes; exact List.mem_append_right _ (q1 s e).1
  have n1 : ∀ s, x.dst = some s → src ≠ some s := fun s e e' => hxs s e (hsrc s e')
  have n2 : ∀ s, x.dst = some s → y.dst ≠ some s := fun s e e' => hxs s e (dst_writes e')
  have ox' : opD P C f call x (putD (putD t src sh) y.dst u) h = some (putD (putD (putD t x.dst r) src sh) y.dst u, h2) := by
    rw [opD_put (ops := ops) (by rw [cx]; exact fun e => by cases e) (fun s e => ⟨b s (dst_writes e), fun e' => n2 s e' e, .inl cx⟩),
      opD_put (ops := ops) (by rw [cx]; exact fun e => by cases e) (fun s e => ⟨b s (hsrc s e), fun e' => n1 s e' e, .inl cx⟩), ox]
    rfl
  have hys : ∀ s, y.dst = some s → t[s]? = (putD t x.dst r)[s]? := fun s e => (put_get (fun e' => n2 s e' e)).symm
  have st' : staysAt rs (putD (putD t src sh) y.dst u) = true := by
    rw [staysAt_iff] at hst s2 ⊢
    intro s hs z hz
    by_cases e1 : x.dst = some (s / 2)
    · rw [put_get (fun e => n2 _ e1 e), put_get (fun e => n1 _ e1 e)] at hz
      exact hst s hs z hz
    · refine s2 s hs z ?_
      rw [put_comm (a := x.dst) (fun k e => n1 k e), put_comm (a := x.dst) (fun k e => n2 k e), put_get e1]
      exact hz
  refine ⟨_, _, step_mk (preX_congr hpy hys (fun e => by rw [hy0] at e; cases e) (fun e => by rw [hy0] at e; cases e)) (want_none gy) oy' st' ?_, step_mk (preX_congr hpx (fun s e => ?_) (fun e => by rw [cx] at e; cases e) (fun e => by rw [cx] at e; cases e)) (want_none gx) ox' s2 ?_⟩
  · rw [pathsAt_iff] at p2 ⊢
    intro s e z hz
    refine pathFrom_congr (fun k hk s' off hkk => by rw [hyt k hk]; exact hkk) (p2 s e z ?_)
    rw [put_comm (a := x.dst) (fun k e => n1 k e), put_comm (a := x.dst) (fun k e => n2 k e), put_get (fun e' => n2 s e' e)]
    exact hz
  · rw [put_get (fun e' => n2 s e e'), put_get (fun e' => n1 s e e')]
  · rw [pathsAt_iff] at p1 ⊢
    intro s e z hz
    refine pathFrom_congr (fun k hk s' off hkk => ?_) (p1 s e z ?_)
    · rw [put_get (fun e' => b k (dst_writes e') (looks_operand hk)), put_get (fun e' => b k (hsrc k e') (looks_operand hk))]
      exact hkk
    · rw [put_get (fun e' => n2 s e e'), put_get (fun e' => n1 s e e')] at hz
      exact hz
theorem swap_sc (hplain : Plain C call) (hx0 : srt C f x = .hard) (cy : srt C f y = .call) (hsx : still x = true) (gx : x.guard = none) (gy : y.guard = none)
    (a : ∀ s ∈ writes C f x, s ∉ y.looksAt ops) (b : ∀ s ∈ writes C f y, s ∉ x.looksAt ops) (c : ∀ s ∈ writes C f x, s ∉ writes C f y) (hst : staysAt rs t = true)
    (hx : stepX P C f call ops rs fs x t h = some (t1, h1)) (hy : stepX P C f call ops rs fs y t1 h1 = some (t2, h2)) :
    ∃ t' h', stepX P C f call ops rs fs y t h = some (t', h') ∧ stepX P C f call ops rs fs x t' h' = some (t2, h2) := by
  obtain ⟨hpx, ox, s1, p1⟩ := step_want gx hx
  obtain ⟨hpy, oy, s2, p2⟩ := step_want gy hy
  obtain ⟨rfl, src, sh, u, rfl, q1, q2, q3, q4⟩ := still_eff hsx hx0 ox
  have hsrc : ∀ s, src = some s → s ∈ writes C f x := fun s e => by unfold writes; exact List.mem_append_right _ (q1 s e).1
  have n1 : ∀ s, src = some s → y.dst ≠ some s := fun s e e' => c s (hsrc s e) (dst_writes e')
  have n2 : ∀ s, x.dst = some s → y.dst ≠ some s := fun s e e' => c s (dst_writes e) (dst_writes e')
  rw [opD_put (ops := ops) (by rw [cy]; exact fun e => by cases e) (fun s e => ⟨a s (dst_writes e), n2 s e, .inl cy⟩),
    opD_put (ops := ops) (by rw [cy]; exact fun e => by cases e) (fun s e => ⟨a s (hsrc s e), n1 s e, .inl cy⟩)] at oy
  cases oy0 : opD P C f call y t h1 with
  | none => rw [oy0] at oy; cases oy
  | some rr =>
    obtain ⟨t0, h0⟩ := rr
    rw [oy0] at oy
    simp only [Option.map_some, Option.some.injEq, Prod.mk.injEq] at oy
    obtain ⟨rfl, rfl⟩ := oy
    have hpy' : preX C f fs y t = true := preX_congr hpy (fun s e => by rw [put_get (fun e' => n2 s e' e), put_get (fun e' => n1 s e' e)]) (fun e => by rw [cy] at e; cases e) (fun e => by rw [cy] at e; cases e)
    obtain ⟨_, hcall⟩ := eff_op hplain (by rw [cy]; rfl) hpy' oy0
    obtain ⟨r, rfl, hr, _⟩ := hcall cy
    have hxt : ∀ s ∈ tmpsOf x.op.operands.toList, (putD t y.dst r)[s]? = t[s]? := fun s hs => put_get (fun e => b s (dst_writes e) (looks_operand hs))
    have ox' := q4 (putD t y.dst r) h0 hxt
    have st' : staysAt rs (putD t y.dst r) = true := by
      rw [staysAt_iff] at hst s2 ⊢
      intro s hs z hz
      by_cases e1 : y.dst = some (s / 2)
      · refine s2 s hs z ?_
        rw [put_get (fun e => n2 _ e e1), put_get (fun e => n1 _ e e1)]
        exact hz
      · rw [put_get e1] at hz
        exact hst s hs z hz
    refine ⟨_, _, step_mk hpy' (want_none gy) oy0 st' ?_, step_mk (preX_congr hpx (fun s e => put_get (fun e' => n2 s e e')) (fun e => by rw [hx0] at e; cases e) (fun e => by rw [hx0] at e; cases e)) (want_none gx) ox' s2 ?_⟩
    · rw [pathsAt_iff] at p2 ⊢
      intro s e z hz
      refine pathFrom_congr (fun k hk s' off hkk => ?_) (p2 s e z ?_)
      · rw [put_get (fun e' => a k (dst_writes e') (looks_operand hk)), put_get (fun e' => a k (hsrc k e') (looks_operand hk))] at hkk
        exact hkk
      · rw [put_get (fun e' => n2 s e' e), put_get (fun e' => n1 s e' e)]
        exact hz
    · rw [pathsAt_iff] at p1 ⊢
      intro s e z hz
      refine pathFrom_congr (fun k hk s' off hkk => by rw [hxt k hk]; exact hkk) (p1 s e z ?_)
      rw [← hz]
      rw [put_comm (a := y.dst) (fun k e' e'' => n1 k e'' e'), put_comm (a := y.dst) (fun k e' e'' => n2 k e'' e'), put_get (fun e' => n2 s e e')]
theorem swap (hplain : Plain C call) (hm : mayPass C f ops rs fs x y = true) (hst : staysAt rs t = true) (hx : stepX P C f call ops rs fs x t h = some (t1, h1)) (hy : stepX P C f call ops rs fs y t1 h1 = some (t2, h2)) :
    ∃ t' h', stepX P C f call ops rs fs y t h = some (t', h') ∧ stepX P C f call ops rs fs x t' h' = some (t2, h2) := by
  by_cases k1 : srt C f x = .call ∧ srt C f y = .hard
  · obtain ⟨a, b, c, d⟩ := parts_of hm
    rw [k1.1, k1.2] at d
    simp only [Bool.and_eq_true, Option.isNone_iff_eq_none] at d
    exact swap_cs hplain k1.1 k1.2 d.1.1 d.1.2 d.2 a b c hst hx hy
  by_cases k2 : srt C f x = .hard ∧ srt C f y = .call
  · obtain ⟨a, b, c, d⟩ := parts_of hm
    rw [k2.1, k2.2] at d
    simp only [Bool.and_eq_true, Option.isNone_iff_eq_none] at d
    exact swap_sc hplain k2.1 k2.2 d.1.1 d.1.2 d.2 a b c hst hx hy
  have A := apart_of hm k1 k2
  have hst1 := step_stays hst hx
  have hst2 := step_stays hst1 hy
  have hpx := (step_inv hx).1
  have hpy := (step_inv hy).1
  have hdd : ∀ s, x.dst = some s → y.dst ≠ some s := fun s e e' => A.ww s (dst_writes e) (dst_writes e')
  have hdd' : ∀ s, y.dst = some s → x.dst ≠ some s := fun s e e' => A.ww s (dst_writes e') (dst_writes e)
  by_cases lx : Lone C f ops x t
  · obtain ⟨v, hv, rfl, rfl, hpv⟩ := lone_inv lx A.fx hx
    have hvbox : ∀ s, x.dst = some s → v.isBox = true → srt C f x = .new := fun s hd hb => by
      have := hpv s hd
      cases v <;> simp [DV.isBox] at hb
      simpa [pathFrom] using this
    have hlk := look_put (P := P) (ops := ops) (o := y) (t := t) (h := h1) (v := v) (dst := x.dst) fun s hd =>
      ⟨A.xy s (dst_writes hd), preX_slot hpx hd, fun hb => preX_new hpx (hvbox s hd hb) hd⟩
    have hwy := wanted_congr hlk.1
    have hpy' : preX C f fs y t = true := by
      refine preX_congr hpy (fun s hd => (put_get (fun e => hdd' s hd e)).symm) (fun hn s hd hno => ?_) (fun hf s hs hno => ?_)
      · rw [noPath_iff] at hno ⊢
        intro k off hk
        by_cases e : x.dst = some k
        · exact slotQ_noPath (preX_slot hpx e) hk
        · exact hno k off (by rw [put_get e]; exact hk)
      · intro cs hcs
        refine hno cs ?_
        rw [put_get (fun e => A.xy s (dst_writes e) (looks_operand hs))]
        exact hcs
    by_cases ly : Lone C f ops y (putD t x.dst v)
    · obtain ⟨u, hu, rfl, rfl, hpu⟩ := lone_inv ly A.fy hy
      have ly' : Lone C f ops y t := ly.imp id (fun e => hwy ▸ e)
      have hfy : srt C f y = .func → ∀ s ∈ tmpsOf y.op.operands.toList, NoBox t s := fun e s hs => preX_func hpy' e (A.fy e) hs
      have hu' : valW P C f ops y t h2 = some u := by rw [← valW_congr (C := C) (f := f) hlk.1 (fun _ => hlk.2) hfy]; exact hu
      have hpu' : ∀ s, y.dst = some s → pathFrom C f y t u = true := fun s hd => pathFrom_congr (fun k hk s' off hkk => by
        rw [put_get (fun e => A.xy k (dst_writes e) (looks_operand hk))] at hkk
        exact hkk) (hpu s hd)
      have hubox : ∀ s, y.dst = some s → u.isBox = true → srt C f y = .new := fun s hd hb => by
        have := hpu s hd
        cases u <;> simp [DV.isBox] at hb
        simpa [pathFrom] using this
      refine ⟨putD t y.dst u, h2, lone_mk ly' A.fy hpy' hu' ?_ hpu', ?_⟩
      · refine stays_put hst fun s hd hs => staysAt_iff.1 hst2 s hs u ?_
        rw [hd]
        exact put_self (by rw [put_len]; exact slotQ_lt (preX_slot hpy' hd))
      · have hlk' := look_put (P := P) (ops := ops) (o := x) (t := t) (h := h2) (v := u) (dst := y.dst) fun s hd =>
          ⟨A.yx s (dst_writes hd), preX_slot hpy' hd, fun hb => preX_new hpy' (hubox s hd hb) hd⟩
        have hpx' : preX C f fs x (putD t y.dst u) = true := by
          refine preX_congr hpx (fun s hd => put_get (fun e => hdd s hd e)) (fun hn s hd hno => ?_) (fun hf s hs hno => ?_)
          · have hno' := hno
            rw [noPath_iff] at hno ⊢
            intro k off hk
            by_cases e : y.dst = some k
            · rw [e, put_self (slotQ_lt (preX_slot hpy' e))] at hk
              cases hk
              have := hpu' k e
              simp only [pathFrom, List.any_eq_true, Bool.or_eq_true, beq_iff_eq] at this
              obtain ⟨q, hq, hh⟩ := this
              rcases hh with rfl | hh
              · exact A.xy q (dst_writes hd) (looks_operand hq)
              · split at hh
                · rename_i s'' off' hc
                  simp only [beq_iff_eq] at hh
                  subst hh
                  exact hno q off' hc
                · cases hh
            · exact hno k off (by rw [put_get e] at hk; exact hk)
          · intro cs hcs
            refine hno cs ?_
            rw [put_get (fun e => A.yx s (dst_writes e) (looks_operand hs))] at hcs
            exact hcs
        have hfx : srt C f x = .func → ∀ s ∈ tmpsOf x.op.operands.toList, NoBox t s := fun e s hs => preX_func hpx e (A.fx e) hs
        have hv' : valW P C f ops x (putD t y.dst u) h2 = some v := by rw [valW_congr (C := C) (f := f) hlk'.1 (fun _ => hlk'.2) hfx]; exact hv
        have := lone_mk (call := call) (rs := rs) (fs := fs) (lx.imp id (fun e => (wanted_congr hlk'.1).trans e)) A.fx hpx' hv' (by rw [← put_comm hdd]; exact hst2) (fun s hd => pathFrom_congr (fun k hk s' off hkk => by
          rw [put_get (fun e => A.yx k (dst_writes e) (looks_operand hk))]
          exact hkk) (hpv s hd))
        rw [this, put_comm hdd]
    · obtain ⟨_, ⟨hw, hop, hs3, hp3⟩ | ⟨hw, _, _⟩⟩ := step_inv hy
      · have hys : (srt C f y).soft = false := by
          cases e : (srt C f y).soft
          · rfl
          · exact (ly (.inl e)).elim
        have hny : srt C f y ≠ .new := fun e => by rw [e] at hys; cases hys
        have hvc : ∀ s, x.dst = some s → v.isBox = true → srt C f y = .call := fun s hd hb => by
          have hn := hvbox s hd hb
          cases hh : srt C f y <;> rw [hh] at hys <;> first | rfl | (simp [Srt.soft] at hys; done) | (rcases A.hy hh with e | e | ⟨e, _⟩ <;> rw [hn] at e <;> cases e)
        rw [opD_put (ops := ops) hny (fun s hd => ⟨A.xy s (dst_writes hd), hdd s hd, by
          cases hb : v.isBox
          · exact .inr ⟨slotQ_noBox (preX_slot hpx hd), rfl⟩
          · exact .inl (hvc s hd hb)⟩)] at hop
        cases hop' : opD P C f call y t h1 with
        | none => rw [hop'] at hop; cases hop
        | some r =>
          obtain ⟨t', h'⟩ := r
          rw [hop'] at hop
          simp only [Option.map_some, Option.some.injEq, Prod.mk.injEq] at hop
          obtain ⟨rfl, rfl⟩ := hop
          obtain ⟨hmild, hcall⟩ := eff_op hplain hys hpy' hop'
          have hlx := look_mild (ops := ops) (o := x) hmild A.yx
          have hsame : ∀ s, x.dst = some s → t'[s]? = t[s]? := fun s hd => by
            rcases hmild.at_ s with e | ⟨⟨c, hc⟩, _⟩ | ⟨e, _⟩
            · exact e
            · exact (slotQ_noBox (preX_slot hpx hd) c hc).elim
            · exact (A.ww s (dst_writes hd) e).elim
          refine ⟨t', h', step_mk hpy' (hwy ▸ hw) hop' ?_ ?_, ?_⟩
          · rw [staysAt_iff] at hst hs3 ⊢
            intro s hs z hz
            by_cases e : x.dst = some (s / 2)
            · rw [hsame _ e] at hz
              exact hst s hs z hz
            · exact hs3 s hs z (by rw [put_get e]; exact hz)
          · rw [pathsAt_iff] at hp3 ⊢
            intro s hd z hz
            refine pathFrom_congr (fun k hk s' off hkk => ?_) (hp3 s hd z (by rw [put_get (hdd' s hd)]; exact hz))
            rw [put_get (fun e => A.xy k (dst_writes e) (looks_operand hk))] at hkk
            exact hkk
          · have hpx' : preX C f fs x t' = true := by
              refine preX_congr hpx hsame (fun hn s hd hno => ?_) (fun hf s hs hno => (hmild.noBox s).2 hno)
              have hc : srt C f y = .call := by
                cases hh : srt C f y <;> rw [hh] at hys <;> first | rfl | (simp [Srt.soft] at hys; done) | (rcases A.hy hh with e | e | ⟨e, _⟩ <;> rw [hn] at e <;> cases e)
              obtain ⟨r, rfl, hr, _⟩ := hcall hc
              rw [noPath_iff] at hno ⊢
              intro k off hk
              by_cases e : y.dst = some k
              · rw [e, put_self (slotQ_lt (preX_slot hpy' e))] at hk
                cases hk
                exact plain_path hr rfl
              · exact hno k off (by rw [put_get e] at hk; exact hk)
            have hfx : srt C f x = .func → ∀ s ∈ tmpsOf x.op.operands.toList, NoBox t s := fun e s hs => preX_func hpx e (A.fx e) hs
            have hv' : valW P C f ops x t' h' = some v := by
              rw [valW_congr (C := C) (f := f) hlx (fun hwx => ?_) hfx]
              · exact hv
              · have hxs : (srt C f x).soft = true := by
                  rcases lx with e | e
                  · exact e
                  · rw [hwx] at e; cases e
                refine alike_mild (rs := rs) hmild A.yx hxs (fun hrd => ?_)
                cases hh : srt C f y <;> rw [hh] at hys <;> try (simp [Srt.soft] at hys; done)
                · rcases A.rc hrd hh with e | e
                  · exact .inl ⟨.inl (calm_heap hplain e hop'), (hcall hh).choose_spec.2.2⟩
                  · exact .inl ⟨.inr ⟨e, hst⟩, (hcall hh).choose_spec.2.2⟩
                · rcases A.hy hh with e | e | ⟨_, e⟩
                  · rw [hrd] at e; cases e
                  · rw [hrd] at e; cases e
                  · rcases e with e | e
                    · obtain ⟨e1, e2⟩ := eff_still e hh (fun s hd => slotQ_noBox (preX_slot hpy' hd)) hop'
                      exact .inl ⟨.inl e1, e2⟩
                    · exact eff_mem e hst hh (fun s hd => slotQ_noBox (preX_slot hpy' hd)) hop'
            refine lone_mk (lx.imp id (fun e => (wanted_congr hlx).trans e)) A.fx hpx' hv' hst2 (fun s hd => pathFrom_congr (fun k hk s' off hkk => ?_) (hpv s hd))
            rcases hlx k (looks_operand hk) with e | ⟨⟨c, hc⟩, _⟩
            · rw [e]; exact hkk
            · rw [hkk] at hc; cases hc
      · exact (ly (.inr hw)).elim
  · obtain ⟨_, ⟨hw, hop, hs3, hp3⟩ | ⟨hw, _, _⟩⟩ := step_inv hx
    · have hxs : (srt C f x).soft = false := by
        cases e : (srt C f x).soft
        · rfl
        · exact (lx (.inl e)).elim
      have hnx : srt C f x ≠ .new := fun e => by rw [e] at hxs; cases hxs
      have hys : (srt C f y).soft = true := by
        cases hh : srt C f x <;> rw [hh] at hxs <;> simp [Srt.soft] at hxs
        · cases hh' : srt C f y <;> try rfl
          · exact (A.cc hh hh').elim
          · rcases A.hy hh' with e | e | ⟨e, _⟩ <;> rw [hh] at e <;> cases e
        · rcases A.hx hh with e | e | ⟨e, _⟩ <;> rw [e] <;> rfl
      obtain ⟨hmild, hcall⟩ := eff_op hplain hxs hpx hop
      have hly := look_mild (ops := ops) (o := y) hmild A.xy
      obtain ⟨u, hu, rfl, rfl, hpu⟩ := lone_inv (.inl hys) A.fy hy
      have hubox : ∀ s, y.dst = some s → u.isBox = true → srt C f x = .call := fun s hd hb => by
        have := hpu s hd
        have hn : srt C f y = .new := by
          cases u <;> simp [DV.isBox] at hb
          simpa [pathFrom] using this
        cases hh : srt C f x <;> rw [hh] at hxs <;> first | rfl | (simp [Srt.soft] at hxs; done) | (rcases A.hx hh with e | e | ⟨e, _⟩ <;> rw [hn] at e <;> cases e)
      have hsame : ∀ s, y.dst = some s → t1[s]? = t[s]? := fun s hd => by
        rcases hmild.at_ s with e | ⟨_, c, hc⟩ | ⟨e, _⟩
        · exact e
        · exact (slotQ_noBox (preX_slot hpy hd) c hc).elim
        · exact (A.ww s e (dst_writes hd)).elim
      have hpy' : preX C f fs y t = true := by
        refine preX_congr hpy (fun s hd => (hsame s hd).symm) (fun hn s hd hno => ?_) (fun hf s hs hno => (hmild.noBox s).1 hno)
        have hc : srt C f x = .call := by
          cases hh : srt C f x <;> rw [hh] at hxs <;> first | rfl | (simp [Srt.soft] at hxs; done) | (rcases A.hx hh with e | e | ⟨e, _⟩ <;> rw [hn] at e <;> cases e)
        obtain ⟨r, rfl, hr, _⟩ := hcall hc
        rw [noPath_iff] at hno ⊢
        intro k off hk
        by_cases e : x.dst = some k
        · exact slotQ_noPath (preX_slot hpx e) hk
        · exact hno k off (by rw [put_get e]; exact hk)
      have hfy : srt C f y = .func → ∀ s ∈ tmpsOf y.op.operands.toList, NoBox t s := fun e s hs => preX_func hpy' e (A.fy e) hs
      have hu' : valW P C f ops y t h = some u := by
        rw [← valW_congr (C := C) (f := f) (h1 := h2) hly (fun hwy => ?_) hfy]
        · exact hu
        · refine alike_mild (rs := rs) hmild A.xy hys (fun hrd => ?_)
          cases hh : srt C f x <;> rw [hh] at hxs <;> try (simp [Srt.soft] at hxs; done)
          · rcases A.cr hh hrd with e | e
            · exact .inl ⟨.inl (calm_heap hplain e hop), (hcall hh).choose_spec.2.2⟩
            · exact .inl ⟨.inr ⟨e, hst⟩, (hcall hh).choose_spec.2.2⟩
          · rcases A.hx hh with e | e | ⟨_, e⟩
            · rw [hrd] at e; cases e
            · rw [hrd] at e; cases e
            · rcases e with e | e
              · obtain ⟨e1, e2⟩ := eff_still e hh (fun s hd => slotQ_noBox (preX_slot hpx hd)) hop
                exact .inl ⟨.inl e1, e2⟩
              · exact eff_mem e hst hh (fun s hd => slotQ_noBox (preX_slot hpx hd)) hop
      have hpath : ∀ k ∈ tmpsOf y.op.operands.toList, ∀ s' off, t1[k]? = some (DV.path s' off) → t[k]? = some (DV.path s' off) := fun k hk s' off hkk => by
        rcases hly k (looks_operand hk) with e | ⟨_, c, hc⟩
        · rw [← e]; exact hkk
        · rw [hkk] at hc; cases hc
      refine ⟨putD t y.dst u, h, lone_mk (.inl hys) A.fy hpy' hu' ?_ (fun s hd => pathFrom_congr hpath (hpu s hd)), ?_⟩
      · refine stays_put hst fun s hd hs => staysAt_iff.1 hst2 s hs u ?_
        rw [hd]
        exact put_self (slotQ_lt (preX_slot hpy hd))
      · have hlk : Looks ops x t (putD t y.dst u) := fun s hs => .inl (put_get (fun e => A.yx s (dst_writes e) hs))
        refine step_mk ?_ ((wanted_congr hlk).trans hw) ?_ hst2 ?_
        · refine preX_congr hpx (fun s hd => put_get (fun e => hdd s hd e)) (fun hn => (hnx hn).elim) (fun hf => by rw [hf] at hxs; cases hxs)
        · rw [opD_put (ops := ops) hnx (fun s hd => ⟨A.yx s (dst_writes hd), hdd' s hd, by
            cases hb : u.isBox
            · exact .inr ⟨slotQ_noBox (preX_slot hpy' hd), rfl⟩
            · exact .inl (hubox s hd hb)⟩), hop]
          rfl
        · rw [pathsAt_iff] at hp3 ⊢
          intro s hd z hz
          refine pathFrom_congr (fun k hk s' off hkk => ?_) (hp3 s hd z (by rw [put_get (hdd s hd)] at hz; exact hz))
          rw [put_get (fun e => A.yx k (dst_writes e) (looks_operand hk))]
          exact hkk
    · exact (lx (.inr hw)).elim
end
end Go.DS

/-
  A drawn region: any order comes to what the order of the text comes to.
-/
namespace Go.DS
set_option linter.unusedSectionVars false
variable [M : Mono]
open Go
set_option linter.unusedVariables false
set_option linter.unusedSimpArgs false

theorem maskOf_bit {acc : List Nat} {j : Nat} : ∀ {es : List Edge}, (maskOf acc es).testBit j = true → ∃ e ∈ es, Region.binds .any e = true ∧ (e.on = j ∨ (acc.getD e.on 0).testBit j = true)
  | [], h => by simp [maskOf] at h
  | e :: es, h => by
    simp only [maskOf] at h
    split at h
    · rename_i hb
      simp only [Nat.testBit_or, Bool.or_eq_true, Nat.testBit_two_pow, decide_eq_true_eq] at h
      rcases h with (h | h) | h
      · exact ⟨e, by simp, hb, .inl h⟩
      · exact ⟨e, by simp, hb, .inr h⟩
      · obtain ⟨e', h1, h2⟩ := maskOf_bit h
        exact ⟨e', by simp [h1], h2⟩
    · obtain ⟨e', h1, h2⟩ := maskOf_bit h
      exact ⟨e', by simp [h1], h2⟩

theorem masks_get : ∀ (os : List Oper) (acc : List Nat) (i : Nat), i < acc.length → (masks os acc)[i]? = acc[i]?
  | [], acc, i, h => rfl
  | o :: os, acc, i, h => by
    simp only [masks]
    rw [masks_get os _ i (by simp; omega)]
    exact List.getElem?_append_left h

theorem masks_at : ∀ (os : List Oper) (acc : List Nat) (i : Nat) (o : Oper), os[i]? = some o → ∃ acc', (masks os acc)[acc.length + i]? = some (maskOf acc' o.after.toList) ∧ acc'.length = acc.length + i ∧ ∀ k, k < acc'.length → acc'[k]? = (masks os acc)[k]?
  | [], acc, i, o, h => by simp at h
  | o' :: os, acc, 0, o, h => by
    cases h
    refine ⟨acc, ?_, rfl, fun k hk => ?_⟩
    · simp only [masks]
      rw [masks_get os _ _ (by simp)]
      simp
    · simp only [masks]
      rw [masks_get os _ k (by simp; omega)]
      exact (List.getElem?_append_left hk).symm
  | o' :: os, acc, i + 1, o, h => by
    obtain ⟨acc', h1, h2, h3⟩ := masks_at os (acc ++ [maskOf acc o'.after.toList]) i o (by simpa using h)
    refine ⟨acc', ?_, by simp at h2; omega, h3⟩
    simp only [masks]
    rw [← h1]
    congr 1
    simp
    omega

theorem masks_bit {ops : List Oper} {i j : Nat} {o : Oper} (ho : ops[i]? = some o) (h : ((masks ops []).getD i 0).testBit j = true) :
    ∃ e ∈ o.after.toList, Region.binds .any e = true ∧ (e.on = j ∨ ((masks ops []).getD e.on 0).testBit j = true) := by
  obtain ⟨acc', h1, h2, h3⟩ := masks_at ops [] i o ho
  simp only [List.length_nil, Nat.zero_add] at h1 h2
  rw [List.getD_eq_getElem?_getD, h1] at h
  obtain ⟨e, he, hb, hh⟩ := maskOf_bit h
  refine ⟨e, he, hb, hh.imp id fun hh => ?_⟩
  by_cases hk : e.on < acc'.length
  · rw [List.getD_eq_getElem?_getD, ← h3 e.on hk, ← List.getD_eq_getElem?_getD]
    exact hh
  · rw [List.getD_eq_getElem?_getD, List.getElem?_eq_none (by omega)] at hh
    simp at hh

def sel (ops : Array Oper) (L : List Nat) : List Oper := L.filterMap fun i => ops[i]?

theorem sel_range_list : ∀ (l : List Oper), (List.range l.length).filterMap (fun i => l[i]?) = l
  | [] => rfl
  | o :: l => by
    rw [List.length_cons, List.range_succ_eq_map, List.filterMap_cons]
    simp only [List.getElem?_cons_zero, List.filterMap_map]
    congr 1
    exact sel_range_list l

theorem sel_range (ops : Array Oper) : sel ops (List.range ops.size) = ops.toList := by
  have := sel_range_list ops.toList
  rw [Array.length_toList] at this
  unfold sel
  simpa using this

section
variable {P : Program} {C : Cfg} {f : FuncId} {call : FuncId → List DV → DHeap → Option (DV × DHeap)} {ops : Array Oper} {rs fs : List Tmp}

theorem pull (hplain : Plain C call) {y : Oper} {l2 : List Oper} {S : List DV × DHeap} : ∀ (l1 : List Oper) (t : List DV) (h : DHeap), (∀ x ∈ l1, mayPass C f ops rs fs x y = true) → staysAt rs t = true →
    runX P C f call ops rs fs (l1 ++ y :: l2) t h = some S → ∃ t1 h1, stepX P C f call ops rs fs y t h = some (t1, h1) ∧ runX P C f call ops rs fs (l1 ++ l2) t1 h1 = some S
  | [], t, h, _, _, hr => by
    simp only [List.nil_append, runX] at hr
    split at hr
    · rename_i t1 h1 hs
      exact ⟨t1, h1, hs, hr⟩
    · cases hr
  | x :: l1, t, h, hp, hst, hr => by
    simp only [List.cons_append, runX] at hr
    split at hr
    · rename_i t1 h1 hs
      obtain ⟨t2, h2, hy, hr2⟩ := pull hplain l1 t1 h1 (fun z hz => hp z (by simp [hz])) (step_stays hst hs) hr
      obtain ⟨t', h', hy', hx'⟩ := swap hplain (hp x (by simp)) hst hs hy
      refine ⟨t', h', hy', ?_⟩
      simp only [List.cons_append, runX, hx']
      exact hr2
    · cases hr

theorem draw_any (hcall : CallS P call) (hplain : Plain C call) (hin : inText ops.toList = true) (hpair : pairsOK (mayPass C f ops rs fs) ops.toList (masks ops.toList []) = true) {Q : Exit → Act → World → Prop} {d : Nat} :
    ∀ (fuel : Nat) (L : List Nat) (listed : Array Bool) (t : List DV) (h : DHeap) (a : Act) (g : Gh) (w : World) (T : List DV) (H : DHeap), L.length = fuel → L.Pairwise (· < ·) → (∀ i, i ∈ L ↔ listed.getD i true = false) → listed.size = ops.size →
      (∀ k, k < ops.size → listed.getD k false = true → ∀ j, ((masks ops.toList []).getD k 0).testBit j = true → listed.getD j false = true) → staysAt rs t = true → RelT g w d t a.tmps → WInv g h w →
      runX P C f call ops rs fs (sel ops L) t h = some (T, H) → Next d g w a T H (Q .normal) → wpAny P .any ops Q fuel listed a w := by
  intro fuel
  induction fuel with
  | zero =>
    intro L listed t h a g w T H hL hs hmem hsz hcl hst hT hW hr hn
    have hnil : L = [] := List.length_eq_zero_iff.1 hL
    subst hnil
    refine ⟨?_, ?_⟩
    · rw [List.eq_nil_iff_forall_not_mem]
      intro i hi
      have := (hmem i).2 (mem_ready.1 hi).1
      cases this
    · simp only [sel, List.filterMap_nil, runX, Option.some.injEq, Prod.mk.injEq] at hr
      obtain ⟨rfl, rfl⟩ := hr
      exact hn g a w (.refl ..) hW hT rfl
  | succ fuel ih =>
    intro L listed t h a g w T H hL hs hmem hsz hcl hst hT hW hr hn
    have hlt : ∀ i, i ∈ L → i < ops.size := fun i hi => by
      have := (hmem i).1 hi
      rcases Nat.lt_or_ge i ops.size with h' | h'
      · exact h'
      · rw [← hsz] at h'
        simp [Array.getElem?_eq_none h'] at this
    have hlisted : ∀ j, j < ops.size → j ∉ L → listed.getD j false = true := fun j hj hnj => by
      have h1 : listed.getD j true ≠ false := fun e => hnj ((hmem j).2 e)
      rw [← hsz] at hj
      simp [hj] at h1 ⊢
      exact h1
    have hin' : ∀ i o, ops[i]? = some o → ∀ e ∈ o.after, Region.binds .any e = true → e.on < i := fun i o ho e he hb => by
      simp only [inText, List.all_eq_true, List.mem_range, Array.length_toList] at hin
      have := hin i (Array.getElem?_eq_some_iff.1 ho).1
      rw [show ops.toList[i]? = some o by simpa using ho] at this
      simp only [List.all_eq_true, Bool.or_eq_true, Bool.not_eq_true', decide_eq_true_eq] at this
      rcases this e (by simpa using he) with h1 | h1
      · rw [hb] at h1; cases h1
      · exact h1
    refine ⟨fun hnil => ?_, fun i hi => ?_⟩
    · exfalso
      match L, hL, hs, hmem, hlt, hlisted with
      | m :: L, hL, hs, hmem, hlt, hlisted =>
        have hm := hlt m (by simp)
        have : m ∈ Region.ready .any ops listed := mem_ready.2 ⟨(hmem m).1 (by simp), ops[m], by simp [hm], fun e he hb => by
          have hlt' := hin' m _ (by simp [hm]) e he hb
          refine hlisted e.on (by omega) fun hmem' => ?_
          rcases List.mem_cons.1 hmem' with h1 | h1
          · omega
          · have := List.rel_of_pairwise_cons hs h1
            omega⟩
        rw [hnil] at this
        cases this
    · obtain ⟨hi1, o, ho, hall⟩ := mem_ready.1 hi
      have hiL := (hmem i).2 hi1
      obtain ⟨l1, l2, rfl⟩ := List.append_of_mem hiL
      have hlt1 : ∀ j ∈ l1, j < i := fun j hj => by
        have := (List.pairwise_append.1 hs).2.2 j hj i (by simp)
        exact this
      have hpass : ∀ x ∈ sel ops l1, mayPass C f ops rs fs x o = true := fun x hx => by
        obtain ⟨j, hj, hjx⟩ := List.mem_filterMap.1 hx
        have hji := hlt1 j hj
        simp only [pairsOK, List.all_eq_true, List.mem_range, Array.length_toList] at hpair
        have := hpair i (hlt i hiL) j hji
        rw [Bool.or_eq_true] at this
        rcases this with h1 | h1
        · exfalso
          obtain ⟨e, he, hb, hh⟩ := masks_bit (by simpa using ho) h1
          have hel := hall e (by simpa using he) hb
          have hju : listed.getD j true = false := (hmem j).1 (by simp [hj])
          have hjs := hlt j (by simp [hj])
          have hjf : listed.getD j false = true := by
            rcases hh with rfl | hh
            · exact hel
            · exact hcl e.on (by have := hin' i o ho e (by simpa using he) hb; have := hlt i hiL; omega) hel j hh
          rw [← hsz] at hjs
          simp [hjs] at hju hjf
          rw [hju] at hjf
          cases hjf
        · rw [show ops.toList[j]? = some x by simpa using hjx, show ops.toList[i]? = some o by simpa using ho] at h1
          exact h1
      have hr' : runX P C f call ops rs fs (sel ops l1 ++ o :: sel ops l2) t h = some (T, H) := by
        have : sel ops (l1 ++ i :: l2) = sel ops l1 ++ o :: sel ops l2 := by
          simp [sel, List.filterMap_append, List.filterMap_cons, ho]
        rw [← this]; exact hr
      obtain ⟨t1, h1, hstep, hrest⟩ := pull hplain _ t h hpass hst hr'
      have hrest' : runX P C f call ops rs fs (sel ops (l1 ++ l2)) t1 h1 = some (T, H) := by
        rw [show sel ops (l1 ++ l2) = sel ops l1 ++ sel ops l2 by simp [sel, List.filterMap_append]]
        exact hrest
      have hnd : i ∉ l1 ++ l2 := fun hm => by
        rcases List.mem_append.1 hm with h1 | h1
        · have := hlt1 i h1; omega
        · have h2 := (List.pairwise_append.1 hs).2.1
          have := List.rel_of_pairwise_cons h2 h1
          omega
      have his : i < listed.size := hsz ▸ hlt i hiL
      have next : ∀ (a' : Act) (g' : Gh) (w' : World), RelT g' w' d t1 a'.tmps → WInv g' h1 w' → Next d g' w' a' T H (Q .normal) → wpAny P .any ops Q fuel (listed.setIfInBounds i true) a' w' := fun a' g' w' hT' hW' hn' => by
        refine ih (l1 ++ l2) _ t1 h1 a' g' w' T H (by simp at hL ⊢; omega) ?_ (fun k => ?_) (by simpa using hsz) (fun k hk hkl j hj => ?_) (step_stays hst hstep) hT' hW' hrest' hn'
        · refine hs.sublist ?_
          exact List.Sublist.append_left (List.sublist_cons_self ..) _
        · by_cases e : i = k
          · subst e
            simp only [hnd, false_iff]
            simp [his]
          · rw [getD_set_ne true e, ← hmem k]
            simp [Ne.symm e]
        · by_cases e : i = k
          · subst e
            obtain ⟨e', he', hb, hh⟩ := masks_bit (by simpa using ho) hj
            have hel := hall e' (by simpa using he') hb
            rcases hh with rfl | hh
            · exact getD_set_true hel
            · exact getD_set_true (hcl e'.on (by have := hin' i o ho e' (by simpa using he') hb; omega) hel j hh)
          · rw [getD_set_ne false e] at hkl
            exact getD_set_true (hcl k hk hkl j hj)
      unfold wpOp
      rw [ho]
      dsimp only
      obtain ⟨_, ⟨hw, hop, _, _⟩ | ⟨hw, rfl, rfl⟩⟩ := step_inv hstep
      · rw [if_pos (wanted_rel hT hw)]
        refine .inl (op_sound hcall hT hW hop (fun g' a' w' he hW' hT' hd => next a' g' w' hT' hW' (fun g'' a'' w'' he' hW'' hT'' hd' => ?_)))
        exact hn g'' a'' w'' (he.trans he') hW'' hT'' (hd'.trans hd)
      · rw [if_neg (by rw [wanted_rel hT hw]; simp)]
        exact next _ g w hT.put_undef hW (fun g'' a'' w'' he' hW'' hT'' hd' => hn g'' a'' w'' he' hW'' hT'' (hd'.trans (put_defers _ _ _)))

theorem drawOK_spec (h : drawOK C f ops = some (rs, fs)) : inText ops.toList = true ∧ pairsOK (mayPass C f ops rs fs) ops.toList (masks ops.toList []) = true := by
  unfold drawOK at h
  dsimp only at h
  split at h
  · rename_i hc
    cases h
    rw [Bool.and_eq_true] at hc
    exact hc
  · cases h

theorem region_sound (hcall : CallS P call) (hplain : Plain C call) : RegionS P (regionD P C f call) := by
  intro ops draw t h t' h' hx d a g w id Q hT hW hn
  unfold regionD at hx
  split at hx
  · exact wp_region_list (ops_sound hcall _ t h a g w t' h' hT hW hx hn)
  · split at hx
    · rename_i rs fs hm hd
      split at hx
      · rename_i hst
        obtain ⟨h1, h2⟩ := drawOK_spec hd
        have htouch := drew_touch (w := w) hW.pc
        have hext : Ext d g g w w.drew := htouch.ext (.inl (Nat.le_refl _))
        refine wp_region_any hm (draw_any hcall hplain h1 h2 ops.size (List.range ops.size) _ t h a g _ t' h' (by simp) List.pairwise_lt_range (fun i => ?_) (by simp) (fun k hk hkl => ?_) hst (htouch.relT (.inl (Nat.le_refl _)) hT) (htouch.winv rfl (.inl (Nat.le_refl _)) hW) (by rw [sel_range]; exact hx) (fun g' a' w' he hW' hT' hd' => ?_))
        · by_cases hi : i < ops.size
          · simp [hi]
          · simp [hi]
        · simp [hk] at hkl
        · exact hn g' a' w' (hext.trans he) hW' hT' hd'
      · cases hx
    · cases hx
end
end Go.DS

/-
  The evaluator of functions is sound.
-/
namespace Go.DS
set_option linter.unusedSectionVars false
variable [M : Mono]
open Go
set_option linter.unusedVariables false
set_option linter.unusedSimpArgs false

theorem heapFree_all : ∀ {cs : List DV}, heapFree.all cs = true ↔ ∀ c ∈ cs, heapFree c = true
  | [] => by simp [heapFree.all]
  | c :: cs => by simp [heapFree.all, heapFree_all (cs := cs)]
theorem heapFree_alls : ∀ {l : List (List DV)}, heapFree.alls l = true ↔ ∀ r ∈ l, ∀ c ∈ r, heapFree c = true
  | [] => by simp [heapFree.alls]
  | r :: l => by simp [heapFree.alls, heapFree_all, heapFree_alls (l := l)]

/-- A value that speaks of no object is told by the cells that last alone. -/
theorem RelV.free {g g' : Gh} {d : DV} {v : Value} (h : RelV g d v) (hp : ∀ b o v, g.pc b o = some v → g'.pc b o = some v) : heapFree d = true → RelV g' d v := by
  induction h with
  | sc v => intro _; exact .sc v
  | junk v => intro _; exact .junk v
  | ptr hi => intro hf; simp [heapFree] at hf
  | mp hi => intro hf; simp [heapFree] at hf
  | vec => intro hf; simp [heapFree] at hf
  | vec0 => intro hf; simp [heapFree] at hf
  | rptr => intro hf; simp [heapFree] at hf
  | eptr hl hd hc ih =>
    intro hf
    simp only [heapFree, heapFree_all] at hf
    exact .eptr hl (fun k d v h1 h2 => ih k d v h1 h2 (hf d (List.mem_of_getElem? h1))) (fun k v hv => hp _ _ _ (hc k v hv))
  | list h1 h2 h3 h4 h5 ih =>
    intro hf
    simp only [heapFree, heapFree_alls] at hf
    refine .list h1 h2 h3 (fun k d v hk hv => ih k d v hk hv ?_) (fun k v hv => hp _ _ _ (h5 k v hv))
    obtain ⟨r, hr, hdr⟩ := List.mem_flatten.1 (List.mem_of_getElem? hk)
    exact hf r hr d hdr
  | empty => intro _; exact .empty
  | fn h1 h2 h3 h4 ih1 ih2 =>
    intro hf
    simp only [heapFree, Bool.and_eq_true, heapFree_all] at hf
    exact .fn h1 (fun k d v hk hv => ih1 k d v hk hv (hf.1 d (List.mem_of_getElem? hk))) h3 (fun k d v hk hv => ih2 k d v hk hv (hf.2 d (List.mem_of_getElem? hk)))
  | iface _ ih => intro hf; simp only [heapFree] at hf; exact .iface (ih hf)
  | agg h1 h2 ih =>
    intro hf
    simp only [heapFree, heapFree_all] at hf
    exact .agg h1 (fun k d v hk hv => ih k d v hk hv (hf d (List.mem_of_getElem? hk)))
  | tup h1 h2 ih =>
    intro hf
    simp only [heapFree, heapFree_all] at hf
    exact .tup h1 (fun k d v hk hv => ih k d v hk hv (hf d (List.mem_of_getElem? hk)))

section
variable {P : Program} {C : Cfg}

theorem args_frame {g : Gh} {w : World} {d : Nat} {args : List DV} {vs : Array Value} {n : Nat} (hr : RelL g args vs.toList) :
    RelT g w d (args.map DV.shed ++ List.replicate (n - args.length) .junk) (vs ++ Array.replicate (n - vs.size) undef) := by
  have hlen : args.length = vs.size := by rw [hr.len]; simp
  refine ⟨by simp [hlen], fun s x v hx hv => ?_⟩
  by_cases hs : s < args.length
  · rw [List.getElem?_append_left (by simpa using hs), List.getElem?_map] at hx
    rw [Array.getElem?_append_left (by omega)] at hv
    cases ha : args[s]? with
    | none => simp [ha] at hx
    | some y =>
      simp only [ha, Option.map_some, Option.some.injEq] at hx
      subst hx
      have hrel := (hr.at_ s y v ha (by simpa using hv)).shed
      have hpl : y.shed.plain = true := by
        generalize y.shed = z at hrel
        cases hrel <;> rfl
      rw [RelS.plain_iff hpl]
      exact ⟨hrel, OwnAt.shed⟩
  · rw [List.getElem?_append_right (by simp; omega)] at hx
    have : x = .junk := by
      have := List.mem_of_getElem? hx
      simp at this
      exact this.2
    subst this
    exact ⟨.junk v, OwnAt.none rfl⟩

theorem evBody_sound {call : FuncId → List DV → DHeap → Option (DV × DHeap)} (hcall : CallS P call) (hplain : Plain C call) {n k : Nat} {args : List DV} {h : DHeap} {r : DV} {h' : DHeap} (hx : evBody P C call n k args h = some (r, h')) : CallOK P k args h r h' := by
  intro d g w vs hW hr
  unfold evBody at hx
  split at hx
  · rename_i fn hfn
    split at hx
    · rename_i c hb
      have hlen : args.length = vs.size := by rw [hr.len]; simp
      have fin : ∀ (x : XD) (t : List DV) (h1 : DHeap), codeD P C k call (regionD P C k call) n c (args.map DV.shed ++ List.replicate (fn.ntmps - args.length) .junk) h = some (x, t, h1) → (x = .normal ∨ x = .ret) →
          retD P t h1 fn.results.toList = some r → h1 = h' → Calls P k vs w fun e w' => ∃ g' v s, e = .returned v ∧ Ext d g g' w w' ∧ WInv g' h' w' ∧ RelV g' r v ∧ OwnAt g' w' (.ownSlot d s) r v := by
        intro x t h1 hc hxx hret e
        subst e
        refine calls_of_wp hfn hb (code_sound (region_sound hcall hplain) n c _ h _ g w _ x t h1 (d := d) (args_frame hr) hW hc (fun g' a' w' he hW' hT' hd => ?_))
        obtain ⟨v, s, hres, hrel, hown⟩ := ret_sound hT' hW' hret
        rcases hxx with rfl | rfl
        · exact ⟨hd, v, hres, g', v, s, rfl, he, hW', hrel, hown⟩
        · exact ⟨hd, v, hres, g', v, s, rfl, he, hW', hrel, hown⟩
      split at hx
      · rename_i t h1 hc
        split at hx
        · rename_i r' hret
          cases hx
          exact fin .normal t _ hc (.inl rfl) hret rfl
        · cases hx
      · rename_i t h1 hc
        split at hx
        · rename_i r' hret
          cases hx
          exact fin .ret t _ hc (.inr rfl) hret rfl
        · cases hx
      · cases hx
    · cases hx
  · cases hx

/-- All old blocks are foreign, and there is no object. -/
def Gh.bare (g : Gh) : Gh := { n := 0, η := g.η, pc := g.pc, kind := fun _ => .foreign, sz := g.sz, one := g.one }
/-- Back to what the old blocks were. -/
def Gh.back (g g' : Gh) (size : Nat) : Gh := { n := g.n, η := g.η, pc := g'.pc, kind := fun b => if b < size then g.kind b else g'.kind b, sz := g.sz, one := g'.one }

theorem pure_back {k : Nat} {args : List DV} {h : DHeap} {r : DV} {h1 : DHeap} (hok : CallOK P k args [] r h1) (ha : args.all heapFree = true) (hf : heapFree r = true) : CallOK P k args h r h := by
  intro d g w vs hW hr
  have hr' : RelL g.bare args vs.toList := ⟨hr.len, fun i x v hx hv => (hr.at_ i x v hx hv).free (fun _ _ _ e => e) (by simp only [List.all_eq_true] at ha; exact ha x (List.mem_of_getElem? hx))⟩
  have hW' : WInv g.bare [] w := ⟨rfl, hW.pc, fun i o e => by simp at e⟩
  refine (hok d g.bare w vs hW' hr').mono ?_
  rintro e w' ⟨g', v, s, rfl, hE, hW1, hrel, hown⟩
  have hheap : ∀ b, b < w.heap.size → w'.heap[b]? = w.heap[b]? := fun b hb => hE.heap b hb trivial
  have hpc : ∀ b, b < w.heap.size → g'.pc b = g.pc b := fun b hb => hE.pc b hb trivial
  have hkind : ∀ b, b < w.heap.size → g'.kind b = .foreign := fun b hb => hE.kind b hb trivial
  have hle : Gh.Le g (g.back g' w.heap.size) := ⟨Nat.le_refl _, fun _ _ => rfl, fun b o v hv => hE.le.pc b o v hv, fun _ _ => rfl⟩
  refine ⟨g.back g' w.heap.size, v, s, rfl, ⟨hle, fun b hb _ => hheap b hb, fun b hb _ => by simp [Gh.back, hb], fun b hb _ => hpc b hb, hE.size, hE.os, hE.tape, hE.output, hE.drawn⟩, ⟨hW.n, hW1.pc, fun i o ho => ?_⟩, hrel.free (fun _ _ _ e => e) hf, ?_⟩
  · have hold := hW.obj i o ho
    cases o with
    | cells cs =>
      obtain ⟨us, et, a1, a2, a3, a4, a5⟩ := hold
      have hlt := (Array.getElem?_eq_some_iff.1 a1).1
      refine ⟨us, et, (hheap _ hlt).trans a1, by simpa [Gh.back, hlt] using a2, fun o' => by simpa [Gh.back, hpc _ hlt] using a3 o', ⟨a4.len, fun k x u hx hu => (a4.at_ k x u hx hu).mono hle⟩, fun k x u hx hu => ?_⟩
      have := a5 k x u hx hu
      intro es l ad cap o1 o2 hl
      obtain ⟨b, off, c, et', b1, b2, b3, b4, b5⟩ := this es l ad cap o1 o2 hl
      have hlt' := (Array.getElem?_eq_some_iff.1 b3).1
      exact ⟨b, off, c, et', b1, by simpa [Gh.back, hlt'] using b2, (hheap _ hlt').trans b3, b4, fun o' ho' => by simpa [Gh.back, hpc _ hlt'] using b5 o' ho'⟩
    | map es =>
      obtain ⟨ents, clk, a1, a2, a3, a4, hst⟩ := hold
      have hlt := (Array.getElem?_eq_some_iff.1 a1).1
      exact ⟨ents, clk, (hheap _ hlt).trans a1, by simpa [Gh.back, hlt] using a2, fun o' => by simpa [Gh.back, hpc _ hlt] using a3 o', ⟨a4.len, fun k x u hx hu => ⟨(a4.at_ k x u hx hu).1.mono hle, (a4.at_ k x u hx hu).2.mono hle⟩⟩, hst⟩
    | row cs =>
      obtain ⟨us, et, a1, a2, a3, a4, a5, a6, a7⟩ := hold
      have hlt := (Array.getElem?_eq_some_iff.1 a1).1
      exact ⟨us, et, (hheap _ hlt).trans a1, by simpa [Gh.back, hlt] using a2, fun o' => by simpa [Gh.back, hpc _ hlt] using a3 o', a4.mono hle, a5, a6, a7⟩
    | dead => trivial
  · intro es l ad cap o1 o2 hl
    obtain ⟨b, off, c, et', b1, b2, b3, b4, b5⟩ := hown es l ad cap o1 o2 hl
    have hnlt : ¬ b < w.heap.size := fun hb => by rw [hkind b hb] at b2; cases b2
    exact ⟨b, off, c, et', b1, by simpa [Gh.back, hnlt] using b2, b3, b4, b5⟩

theorem below_all {n : Nat} : ∀ {cs : List DV}, below.all n cs = true ↔ ∀ c ∈ cs, below n c = true
  | [] => by simp [below.all]
  | c :: cs => by simp [below.all, below_all (cs := cs)]
theorem below_alls {n : Nat} : ∀ {l : List (List DV)}, below.alls n l = true ↔ ∀ r ∈ l, ∀ c ∈ r, below n c = true
  | [] => by simp [below.alls]
  | r :: l => by simp [below.alls, below_all, below_alls (l := l)]
/-- A value that speaks of the first n objects alone. -/
theorem relV_under {g g' : Gh} {n : Nat} {d : DV} {v : Value} (h : RelV g d v) (hn : n ≤ g'.n) (hη : ∀ i, i < n → g'.η i = g.η i) (hs : ∀ i, i < n → g'.sz i = g.sz i) (hp : ∀ b o v, g.pc b o = some v → g'.pc b o = some v) : below n d = true → RelV g' d v := by
  induction h with
  | sc v => intro _; exact .sc v
  | junk v => intro _; exact .junk v
  | ptr hi =>
    intro hf
    simp only [below, decide_eq_true_eq] at hf
    rw [← hη _ hf]; exact .ptr (by omega)
  | mp hi =>
    intro hf
    simp only [below, decide_eq_true_eq] at hf
    rw [← hη _ hf]; exact .mp (by omega)
  | vec hi hc hb =>
    intro hf
    simp only [below, decide_eq_true_eq] at hf
    rw [← hη _ hf]; exact .vec (by omega) hc (by rw [hs _ hf]; exact hb)
  | vec0 => intro _; exact .vec0
  | rptr hi =>
    intro hf
    simp only [below, decide_eq_true_eq] at hf
    rw [← hη _ hf]; exact .rptr (by omega)
  | eptr hl hd hc ih =>
    intro hf
    simp only [below, below_all] at hf
    exact .eptr hl (fun k d v h1 h2 => ih k d v h1 h2 (hf d (List.mem_of_getElem? h1))) (fun k v hv => hp _ _ _ (hc k v hv))
  | list h1 h2 h3 h4 h5 ih =>
    intro hf
    simp only [below, below_alls] at hf
    refine .list h1 h2 h3 (fun k d v hk hv => ih k d v hk hv ?_) (fun k v hv => hp _ _ _ (h5 k v hv))
    obtain ⟨r, hr, hdr⟩ := List.mem_flatten.1 (List.mem_of_getElem? hk)
    exact hf r hr d hdr
  | empty => intro _; exact .empty
  | fn h1 h2 h3 h4 ih1 ih2 =>
    intro hf
    simp only [below, Bool.and_eq_true, below_all] at hf
    exact .fn h1 (fun k d v hk hv => ih1 k d v hk hv (hf.1 d (List.mem_of_getElem? hk))) h3 (fun k d v hk hv => ih2 k d v hk hv (hf.2 d (List.mem_of_getElem? hk)))
  | iface _ ih => intro hf; simp only [below] at hf; exact .iface (ih hf)
  | agg h1 h2 ih =>
    intro hf
    simp only [below, below_all] at hf
    exact .agg h1 (fun k d v hk hv => ih k d v hk hv (hf d (List.mem_of_getElem? hk)))
  | tup h1 h2 ih =>
    intro hf
    simp only [below, below_all] at hf
    exact .tup h1 (fun k d v hk hv => ih k d v hk hv (hf d (List.mem_of_getElem? hk)))

/-- What was made behind the first n objects is no object any more. -/
def Gh.trim (g : Gh) (n : Nat) : Gh := { g with n := n, kind := fun b => match g.kind b with
  | .obj i => if i < n then .obj i else .foreign
  | .ownObj i k => if i < n then .ownObj i k else .foreign
  | k => k }
theorem trim_kind {g : Gh} {n b : Nat} {k : Kind} (hk : ∀ i, k ≠ .obj i ∧ ∀ j, k ≠ .ownObj i j) (h : g.kind b = k) : (g.trim n).kind b = k := by
  simp only [Gh.trim, h]
  cases k <;> first | rfl | (exact ((hk _).1 rfl).elim) | (exact ((hk _).2 _ rfl).elim)
theorem trim_ok {k : Nat} {args : List DV} {h : DHeap} {r : DV} {h1 : DHeap} (hok : CallOK P k args h r h1) {r' : DV} {h' : DHeap} (ht : trim h.length r h1 = some (r', h')) : CallOK P k args h r' h' := by
  unfold DS.trim at ht
  split at ht
  · rename_i hc
    cases ht
    obtain ⟨hc, hlen⟩ := hc
    simp only [Bool.and_eq_true] at hc
    obtain ⟨hr, ho⟩ := hc
    intro d g w vs hW hR
    refine (hok d g w vs hW hR).mono ?_
    rintro e w' ⟨g', v, s, rfl, hE, hW1, hrel, hown⟩
    have hn : h.length = g.n := hW.n
    rw [hn] at hr ho hlen ⊢
    have hu : ∀ {d : DV} {v : Value}, RelV g' d v → below g.n d = true → RelV (g'.trim g.n) d v := fun hv hb => relV_under hv (Nat.le_refl _) (fun _ _ => rfl) (fun _ _ => rfl) (fun _ _ _ e => e) hb
    refine ⟨g'.trim g.n, v, s, rfl, ⟨⟨Nat.le_refl _, fun i hi => hE.le.η i hi, hE.le.pc, fun i hi => hE.le.sz i hi⟩, hE.heap, fun b hb hk => ?_, hE.pc, hE.size, hE.os, hE.tape, hE.output, hE.drawn⟩, ⟨by simp [Gh.trim, hlen], hW1.pc, fun i o hi => ?_⟩, hu hrel hr, ?_⟩
    · refine trim_kind (fun i => ?_) (hE.kind b hb hk)
      refine ⟨fun e => by rw [e] at hk; exact hk.elim, fun j e => by rw [e] at hk; exact hk.elim⟩
    · rw [List.getElem?_take] at hi
      split at hi
      · rename_i hin
        have hold := hW1.obj i o hi
        have hbo : belowO g.n o = true := by
          rw [List.all_eq_true] at ho
          exact ho o (List.mem_of_getElem? (by rw [List.getElem?_take, if_pos hin]; exact hi))
        have hki : (g'.kind (g'.η i) = .obj i) → (g'.trim g.n).kind ((g'.trim g.n).η i) = .obj i := fun e => by
          show (match g'.kind (g'.η i) with | .obj i => if i < g.n then Kind.obj i else .foreign | .ownObj i k => if i < g.n then .ownObj i k else .foreign | k => k) = _
          rw [e]; simp [hin]
        cases o with
        | cells cs =>
          obtain ⟨us, et, a1, a2, a3, a4, a5⟩ := hold
          simp only [belowO, List.all_eq_true] at hbo
          refine ⟨us, et, a1, hki a2, a3, ⟨a4.len, fun k x u hx hu' => hu (a4.at_ k x u hx hu') (hbo x (List.mem_of_getElem? hx))⟩, fun k x u hx hu' => ?_⟩
          intro es l ad cap o1 o2 hl
          obtain ⟨b, off, c, et', b1, b2, b3, b4, b5⟩ := a5 k x u hx hu' es l ad cap o1 o2 hl
          refine ⟨b, off, c, et', b1, ?_, b3, b4, b5⟩
          simp only [Gh.trim, b2, hin, if_true]
        | map es =>
          obtain ⟨ents, clk, a1, a2, a3, a4, a5⟩ := hold
          simp only [belowO, List.all_eq_true, Bool.and_eq_true] at hbo
          exact ⟨ents, clk, a1, hki a2, a3, ⟨a4.len, fun k x u hx hu' => ⟨hu (a4.at_ k x u hx hu').1 (hbo x (List.mem_of_getElem? hx)).1, hu (a4.at_ k x u hx hu').2 (hbo x (List.mem_of_getElem? hx)).2⟩⟩, a5⟩
        | row cs =>
          obtain ⟨us, et, a1, a2, a3, a4, a5, a6, a7⟩ := hold
          simp only [belowO, List.all_eq_true] at hbo
          exact ⟨us, et, a1, hki a2, a3, ⟨a4.len, fun k x u hx hu' => hu (a4.at_ k x u hx hu') (hbo x (List.mem_of_getElem? hx))⟩, a5, a6, a7⟩
        | dead => trivial
      · cases hi
    · intro es l ad cap o1 o2 hl
      obtain ⟨b, off, c, et', b1, b2, b3, b4, b5⟩ := hown es l ad cap o1 o2 hl
      exact ⟨b, off, c, et', b1, trim_kind (fun i => ⟨by simp, by simp⟩) b2, b3, b4, b5⟩
  · cases ht

/-- What the functions told by a proof of their own must do. -/
def ExtS (P : Program) (C : Cfg) : Prop := ∀ k F, C.ext k = some F → ∀ args h r h', F args h = some (r, h') → CallOK P k args h r h'

theorem ev_plain (n : Nat) : Plain C (ev P C n) := by
  intro k xs h r h' hx
  cases n with
  | zero => cases hx
  | succ n =>
    simp only [ev] at hx
    split at hx
    · rename_i F he
      split at hx
      · rename_i r1 h1 hres
        split at hx
        · rename_i hp
          cases hx
          refine ⟨hp, (fun _ e => by rw [he] at e; cases e), fun hk => ?_⟩
          obtain ⟨G, hG, hh⟩ := C.lookOK k hk
          rw [he] at hG
          cases hG
          exact hh _ _ _ _ hres
        · cases hx
      · cases hx
    · rename_i hne
      have hnl : C.look k = true → h' = h := fun hk => by
        obtain ⟨G, hG, _⟩ := C.lookOK k hk
        rw [hne] at hG
        cases hG
      split at hx
      · split at hx
        · split at hx
          · split at hx
            · rename_i hf
              cases hx
              exact ⟨by cases r <;> first | rfl | (simp [heapFree] at hf), fun _ _ => rfl, hnl⟩
            · cases hx
          · cases hx
        · cases hx
      · rename_i hpu
        split at hx
        · split at hx
          · rename_i hp
            split at hx
            · unfold DS.trim at hx
              split at hx
              · cases hx; exact ⟨hp, (fun e => by rw [hpu] at e; cases e), hnl⟩
              · cases hx
            · cases hx
              exact ⟨hp, (fun e => by rw [hpu] at e; cases e), hnl⟩
          · cases hx
        · cases hx

theorem ev_sound (hext : ExtS P C) : ∀ n, CallS P (ev P C n)
  | 0 => by intro k args h r h' hx; cases hx
  | n + 1 => by
    intro k args h r h' hx
    simp only [ev] at hx
    split at hx
    · rename_i F hF
      split at hx
      · rename_i r1 h1 hres
        split at hx
        · cases hx
          exact hext k F hF args h r h' hres
        · cases hx
      · cases hx
    · split at hx
      · split at hx
        · rename_i ha
          split at hx
          · rename_i r1 h1 hb
            split at hx
            · rename_i hf
              cases hx
              exact pure_back (evBody_sound (ev_sound hext n) (ev_plain n) hb) ha hf
            · cases hx
          · cases hx
        · cases hx
      · split at hx
        · rename_i r1 h1 hb
          split at hx
          · split at hx
            · exact trim_ok (evBody_sound (ev_sound hext n) (ev_plain n) hb) hx
            · cases hx
              exact evBody_sound (ev_sound hext n) (ev_plain n) hb
          · cases hx
        · cases hx
end
end Go.DS

/-
  Rules for showing what the evaluator comes to.
-/
namespace Go.DS
open Go
set_option linter.unusedVariables false

/-- A run ends, and then Q. -/
def Ends (r : Option (XD × List DV × DHeap)) (Q : XD → List DV → DHeap → Prop) : Prop := ∃ x t h, r = some (x, t, h) ∧ Q x t h

/-- Behind the first of two. -/
def Then (N : List DV → DHeap → Prop) (Q : XD → List DV → DHeap → Prop) : XD → List DV → DHeap → Prop
  | .normal => N
  | x => Q x
/-- Out of a block. -/
def Out (id : Nat) (Q : XD → List DV → DHeap → Prop) : XD → List DV → DHeap → Prop
  | .exit j => if j = id then Q .normal else Q (.exit j)
  | x => Q x

theorem Ends.mono {r : Option (XD × List DV × DHeap)} {Q Q' : XD → List DV → DHeap → Prop} (h : Ends r Q) (hq : ∀ x t h, Q x t h → Q' x t h) : Ends r Q' := by
  obtain ⟨x, t, h', e, q⟩ := h
  exact ⟨x, t, h', e, hq _ _ _ q⟩

section
variable {P : Program} {C : Cfg} {f : FuncId} {call : FuncId → List DV → DHeap → Option (DV × DHeap)} {region : Array Oper → Bool → List DV → DHeap → Option (List DV × DHeap)} {n : Nat} {t : List DV} {h : DHeap} {Q : XD → List DV → DHeap → Prop}

theorem ends_seq {a b : Code} (H : Ends (codeD P C f call region n a t h) (Then (fun t' h' => Ends (codeD P C f call region n b t' h') Q) Q)) : Ends (codeD P C f call region n (.seq a b) t h) Q := by
  obtain ⟨x, t', h', e, q⟩ := H
  cases x with
  | normal =>
    obtain ⟨y, t2, h2, e2, q2⟩ := q
    exact ⟨y, t2, h2, by simp only [codeD, e]; exact e2, q2⟩
  | exit j => exact ⟨_, _, _, by simp only [codeD, e], q⟩
  | ret => exact ⟨_, _, _, by simp only [codeD, e], q⟩

theorem ends_region {id : Nat} {ops : Array Oper} {draw : Bool} {t' : List DV} {h' : DHeap} (hr : region ops draw t h = some (t', h')) (q : Q .normal (keepD C f id t') h') : Ends (codeD P C f call region n (.region id ops draw) t h) Q :=
  ⟨_, _, _, by simp only [codeD, hr], q⟩

/-- The rest of the code is put away. -/
theorem ends_seq_k {a b : Code} (H : ∀ N : List DV → DHeap → Prop, (∀ t' h', Ends (codeD P C f call region n b t' h') Q → N t' h') → Ends (codeD P C f call region n a t h) (Then N Q)) : Ends (codeD P C f call region n (.seq a b) t h) Q :=
  ends_seq (H _ fun _ _ q => q)

/-- What holds behind a region. -/
def After (C : Cfg) (f : FuncId) (id : Nat) (Q : XD → List DV → DHeap → Prop) : Option (List DV × DHeap) → Prop
  | some (t', h') => Q .normal (keepD C f id t') h'
  | none => False

theorem ends_reg {id : Nat} {ops : Array Oper} {draw : Bool} (H : After C f id Q (region ops draw t h)) : Ends (codeD P C f call region n (.region id ops draw) t h) Q := by
  unfold After at H
  split at H
  · rename_i t' h' e
    exact ends_region e H
  · exact H.elim

theorem ends_cond {c : Operand} {a b : Code} {p : Bool} (hc : opnd P 0 t c = .sc (.bool p)) (h1 : p = true → Ends (codeD P C f call region n a t h) Q) (h2 : p = false → Ends (codeD P C f call region n b t h) Q) :
    Ends (codeD P C f call region n (.cond c a b) t h) Q := by
  cases p with
  | true =>
    obtain ⟨x, t', h', e, q⟩ := h1 rfl
    exact ⟨x, t', h', by simp only [codeD, hc]; exact e, q⟩
  | false =>
    obtain ⟨x, t', h', e, q⟩ := h2 rfl
    exact ⟨x, t', h', by simp only [codeD, hc]; exact e, q⟩

theorem ends_block {id : Nat} {c : Code} (H : Ends (codeD P C f call region n c t h) (Out id Q)) : Ends (codeD P C f call region n (.block id c) t h) Q := by
  obtain ⟨x, t', h', e, q⟩ := H
  cases x with
  | normal => exact ⟨_, _, _, by simp only [codeD, e], q⟩
  | ret => exact ⟨_, _, _, by simp only [codeD, e], q⟩
  | exit j =>
    simp only [Out] at q
    by_cases hj : j = id
    · rw [if_pos hj] at q
      exact ⟨_, _, _, by simp only [codeD, e, if_pos hj], q⟩
    · rw [if_neg hj] at q
      exact ⟨_, _, _, by simp only [codeD, e, if_neg hj], q⟩

theorem ends_scope {c : Code} (H : Ends (codeD P C f call region n c t h) Q) : Ends (codeD P C f call region n (.scope c) t h) Q := by
  obtain ⟨x, t', h', e, q⟩ := H
  exact ⟨x, t', h', by simp only [codeD]; exact e, q⟩

theorem ends_skip (q : Q .normal t h) : Ends (codeD P C f call region n .skip t h) Q := ⟨_, _, _, rfl, q⟩
theorem ends_label {l : Nat} (q : Q .normal t h) : Ends (codeD P C f call region n (.label l) t h) Q := ⟨_, _, _, rfl, q⟩
theorem ends_exit {j : Nat} (q : Q (.exit j) t h) : Ends (codeD P C f call region n (.exit j) t h) Q := ⟨_, _, _, rfl, q⟩
theorem ends_ret (q : Q .ret t h) : Ends (codeD P C f call region n .ret t h) Q := ⟨_, _, _, rfl, q⟩

/-- The end of a function. -/
def Fin (P : Program) (fn : Func) (R : DV → DHeap → Prop) : XD → List DV → DHeap → Prop
  | .normal, t, h | .ret, t, h => ∃ r, retD P t h fn.results.toList = some r ∧ R r h
  | _, _, _ => False

theorem body_of {fn : Func} {c : Code} {k : FuncId} {args : List DV} {r : DV} {h' : DHeap} (hf : P.funcs[k]? = some fn) (hb : fn.body = some c)
    (H : Ends (codeD P C k call (regionD P C k call) n c (args.map DV.shed ++ List.replicate (fn.ntmps - args.length) .junk) h) (Fin P fn fun r1 h1 => r1 = r ∧ h1 = h')) : evBody P C call n k args h = some (r, h') := by
  obtain ⟨x, t, h1, e, q⟩ := H
  unfold evBody
  simp only [hf, hb, e]
  cases x with
  | normal =>
    obtain ⟨r1, hr, rfl, rfl⟩ := q
    simp only [hr]
  | ret =>
    obtain ⟨r1, hr, rfl, rfl⟩ := q
    simp only [hr]
  | exit j => exact q.elim

/-- A function that runs on a heap of its own. -/
theorem ev_pure {fn : Func} {c : Code} {k : FuncId} {args : List DV} {r : DV} (he : C.ext k = none) (hp : C.pure k = true) (hf : P.funcs[k]? = some fn) (hb : fn.body = some c) (ha : args.all heapFree = true) (hr : heapFree r = true)
    (H : Ends (codeD P C k (ev P C n) (regionD P C k (ev P C n)) n c (args.map DV.shed ++ List.replicate (fn.ntmps - args.length) .junk) []) (Fin P fn fun r1 _ => r1 = r)) : ev P C (n + 1) k args h = some (r, h) := by
  obtain ⟨x, t, h1, e, q⟩ := H
  have : ∃ h2, evBody P C (ev P C n) n k args [] = some (r, h2) := by
    unfold evBody
    simp only [hf, hb, e]
    cases x with
    | normal =>
      obtain ⟨r1, hrr, rfl⟩ := q
      exact ⟨h1, by simp only [hrr]⟩
    | ret =>
      obtain ⟨r1, hrr, rfl⟩ := q
      exact ⟨h1, by simp only [hrr]⟩
    | exit j => exact q.elim
  obtain ⟨h2, e2⟩ := this
  simp only [ev, he, hp, ha, e2, hr, if_true]

/-- What is told by a proof of its own. -/
theorem ev_ext {k : FuncId} {F : List DV → DHeap → Option (DV × DHeap)} {args : List DV} {r : DV} {h' : DHeap} (he : C.ext k = some F) (hF : F args h = some (r, h')) (hr : r.plain = true) : ev P C (n + 1) k args h = some (r, h') := by
  simp only [ev, he, hF, hr, if_true]
end
end Go.DS

/-
  More fuel changes nothing; the evaluator without fuel.
-/
namespace Go.DS
set_option linter.unusedSectionVars false
variable [M : Mono]
open Go
set_option linter.unusedVariables false

abbrev CallF := FuncId → List DV → DHeap → Option (DV × DHeap)

def CallLe (c c' : CallF) : Prop := ∀ k a h r, c k a h = some r → c' k a h = some r

section
variable {P : Program} {C : Cfg} {f : FuncId} {call call' : CallF} {ops : Array Oper} {o : Oper} {t : List DV} {h : DHeap} {rs fs : List Tmp} {r : List DV × DHeap}

theorem opD_mono (hc : CallLe call call') (hx : opD P C f call o t h = some r) : opD P C f call' o t h = some r := by
  by_cases hs : srt C f o = .call
  · obtain ⟨fv, args, argTypes, ho⟩ := call_of_srt hs
    simp only [opD, ho] at hx ⊢
    split at hx
    · rename_i k first cap hf
      split at hx
      · rename_i hk
        split at hx
        · rename_i r1 h1 hcc
          cases hx
          rw [if_pos hk, hc _ _ _ _ hcc]
        · cases hx
      · cases hx
    · cases hx
  · rw [← hx]
    unfold opD
    cases ho : o.op <;> try rfl
    rename_i c
    obtain ⟨callee, args, argTypes⟩ := c
    cases callee with
    | value v => simp [srt, ho] at hs
    | invoke r m => rfl
    | builtin b => cases b <;> rfl

theorem opsD_mono (hc : CallLe call call') : ∀ (l : List Oper) (t : List DV) (h : DHeap), opsD P C f call ops l t h = some r → opsD P C f call' ops l t h = some r
  | [], t, h, hx => hx
  | o :: l, t, h, hx => by
    simp only [opsD] at hx ⊢
    split at hx
    · split at hx
      · rename_i t1 h1 hop
        rw [opD_mono hc hop]
        exact opsD_mono hc l _ _ hx
      · cases hx
    · exact opsD_mono hc l _ _ hx
    · cases hx

theorem stepX_mono (hc : CallLe call call') (hx : stepX P C f call ops rs fs o t h = some r) : stepX P C f call' ops rs fs o t h = some r := by
  unfold stepX at hx ⊢
  split at hx
  · rename_i hp
    rw [if_pos hp]
    split at hx
    · split at hx
      · rename_i t1 h1 hop
        simp only [opD_mono hc hop]
        exact hx
      · cases hx
    · exact hx
    · cases hx
  · cases hx

theorem runX_mono (hc : CallLe call call') : ∀ (l : List Oper) (t : List DV) (h : DHeap), runX P C f call ops rs fs l t h = some r → runX P C f call' ops rs fs l t h = some r
  | [], t, h, hx => hx
  | o :: l, t, h, hx => by
    simp only [runX] at hx ⊢
    split at hx
    · rename_i t1 h1 hop
      rw [stepX_mono hc hop]
      exact runX_mono hc l _ _ hx
    · cases hx

theorem regionD_mono (hc : CallLe call call') {draw : Bool} (hx : regionD P C f call ops draw t h = some r) : regionD P C f call' ops draw t h = some r := by
  unfold regionD at hx ⊢
  split at hx
  · exact opsD_mono hc _ _ _ hx
  · cases hm : P.follows .mixedOrders with
    | false => rw [hm] at hx; cases hx
    | true =>
      cases hd : drawOK C f ops with
      | none => rw [hm, hd] at hx; cases hx
      | some q =>
        rw [hm, hd] at hx
        dsimp only at hx ⊢
        split at hx
        · rename_i hst
          rw [if_pos hst]
          exact runX_mono hc _ _ _ hx
        · cases hx

theorem iterD_mono {b b' : List DV → DHeap → Option (XD × List DV × DHeap)} (hb : ∀ t h r, b t h = some r → b' t h = some r) {r : XD × List DV × DHeap} : ∀ (n n' : Nat) (t : List DV) (h : DHeap), n ≤ n' → iterD b n t h = some r → iterD b' n' t h = some r
  | 0, n', t, h, _, hx => by cases hx
  | n + 1, 0, t, h, hn, hx => by omega
  | n + 1, n' + 1, t, h, hn, hx => by
    simp only [iterD] at hx ⊢
    split at hx
    · rename_i t1 h1 hop
      rw [hb _ _ _ hop]
      exact iterD_mono hb n n' _ _ (by omega) hx
    · rename_i j t1 h1 hop
      rw [hb _ _ _ hop]
      exact hx
    · rename_i t1 h1 hop
      rw [hb _ _ _ hop]
      exact hx
    · cases hx

theorem codeD_mono (hc : CallLe call call') {n n' : Nat} (hn : n ≤ n') : ∀ (c : Code) (t : List DV) (h : DHeap) (r : XD × List DV × DHeap), codeD P C f call (regionD P C f call) n c t h = some r → codeD P C f call' (regionD P C f call') n' c t h = some r := by
  intro c
  induction c with
  | region id ops draw =>
    intro t h r hx
    simp only [codeD] at hx ⊢
    split at hx
    · rename_i t1 h1 hr
      rw [regionD_mono hc hr]
      exact hx
    · cases hx
  | seq a b iha ihb =>
    intro t h r hx
    simp only [codeD] at hx ⊢
    split at hx
    · rename_i t1 h1 hr
      rw [iha _ _ _ hr]
      exact ihb _ _ _ hx
    · rename_i j t1 h1 hr
      rw [iha _ _ _ hr]
      exact hx
    · rename_i t1 h1 hr
      rw [iha _ _ _ hr]
      exact hx
    · cases hx
  | cond o a b iha ihb =>
    intro t h r hx
    simp only [codeD] at hx ⊢
    split at hx
    · exact iha _ _ _ hx
    · exact ihb _ _ _ hx
    · cases hx
  | block id c ih =>
    intro t h r hx
    simp only [codeD] at hx ⊢
    cases hc' : codeD P C f call (regionD P C f call) n c t h with
    | none => rw [hc'] at hx; cases hx
    | some q =>
      rw [hc'] at hx
      rw [ih _ _ _ hc']
      exact hx
  | scope c ih =>
    intro t h r hx
    simp only [codeD] at hx ⊢
    exact ih _ _ _ hx
  | loop c ih =>
    intro t h r hx
    simp only [codeD] at hx ⊢
    exact iterD_mono (fun t h r hb => ih _ h r hb) n n' t h hn hx
  | skip => intro t h r hx; simpa only [codeD] using hx
  | label l => intro t h r hx; simpa only [codeD] using hx
  | ret => intro t h r hx; simpa only [codeD] using hx
  | exit j => intro t h r hx; simpa only [codeD] using hx
  | _ => intro t h r hx; simp [codeD] at hx

theorem evBody_mono (hc : CallLe call call') {n n' : Nat} (hn : n ≤ n') {k : FuncId} {args : List DV} {r : DV × DHeap} (hx : evBody P C call n k args h = some r) : evBody P C call' n' k args h = some r := by
  unfold evBody at hx ⊢
  cases hfn : P.funcs[k]? with
  | none => rw [hfn] at hx; cases hx
  | some fn =>
    rw [hfn] at hx
    dsimp only at hx ⊢
    cases hb : fn.body with
    | none => rw [hb] at hx; cases hx
    | some c =>
      rw [hb] at hx
      dsimp only at hx ⊢
      cases hcd : codeD P C k call (regionD P C k call) n c (args.map DV.shed ++ List.replicate (fn.ntmps - args.length) .junk) h with
      | none => rw [hcd] at hx; cases hx
      | some q =>
        rw [hcd] at hx
        rw [codeD_mono hc hn _ _ _ _ hcd]
        exact hx

theorem ev_step (P : Program) (C : Cfg) : ∀ n, CallLe (ev P C n) (ev P C (n + 1))
  | 0 => by intro k a h r hx; cases hx
  | n + 1 => by
    intro k a h r hx
    have ih := ev_step P C n
    rw [ev] at hx ⊢
    split at hx
    · exact hx
    · split at hx
      · split at hx
        · rename_i ha
          rw [if_pos ha]
          cases hb : evBody P C (ev P C n) n k a [] with
          | none => rw [hb] at hx; cases hx
          | some q =>
            rw [hb] at hx
            rw [evBody_mono ih (Nat.le_succ n) hb]
            exact hx
        · cases hx
      · cases hb : evBody P C (ev P C n) n k a h with
        | none => rw [hb] at hx; cases hx
        | some q =>
          rw [hb] at hx
          rw [evBody_mono ih (Nat.le_succ n) hb]
          exact hx

theorem ev_le (P : Program) (C : Cfg) {n n' : Nat} (hn : n ≤ n') : CallLe (ev P C n) (ev P C n') := by
  induction hn with
  | refl => exact fun k a h r hx => hx
  | step _ ih => exact fun k a h r hx => ev_step P C _ k a h r (ih k a h r hx)
end

open Classical in
/-- The evaluator without fuel. -/
noncomputable def lim (P : Program) (C : Cfg) : CallF := fun k a h => if hx : ∃ n r, ev P C n k a h = some r then some hx.choose_spec.choose else none

section
variable {P : Program} {C : Cfg}

theorem lim_of {n : Nat} {k : FuncId} {a : List DV} {h : DHeap} {r : DV × DHeap} (hx : ev P C n k a h = some r) : lim P C k a h = some r := by
  have hex : ∃ n r, ev P C n k a h = some r := ⟨n, r, hx⟩
  unfold lim
  rw [dif_pos hex]
  have h1 := hex.choose_spec.choose_spec
  generalize hex.choose_spec.choose = r1 at h1
  rcases Nat.le_total n hex.choose with hle | hle
  · exact h1.symm.trans (ev_le P C hle k a h r hx)
  · exact (ev_le P C hle k a h _ h1).symm.trans hx

theorem of_lim {k : FuncId} {a : List DV} {h : DHeap} {r : DV × DHeap} (hx : lim P C k a h = some r) : ∃ n, ev P C n k a h = some r := by
  unfold lim at hx
  split at hx
  · rename_i hex
    cases hx
    exact ⟨hex.choose, hex.choose_spec.choose_spec⟩
  · cases hx

theorem lim_sound (hext : ExtS P C) : CallS P (lim P C) := fun k args h r h' hx => by
  obtain ⟨n, hn⟩ := of_lim hx
  exact ev_sound hext n k args h r h' hn
end
end Go.DS

/-
  Rules for the evaluator without fuel.
-/
namespace Go.DS
open Go
set_option linter.unusedVariables false

section
variable {P : Program} {C : Cfg} {f : FuncId} {ops : Array Oper} {o : Oper} {t : List DV} {h : DHeap} {rs fs : List Tmp} {r : List DV × DHeap}

theorem opD_cont (hx : opD P C f (lim P C) o t h = some r) : ∃ m0, ∀ m, m0 ≤ m → opD P C f (ev P C m) o t h = some r := by
  by_cases hs : srt C f o = .call
  · obtain ⟨fv, args, argTypes, ho⟩ := call_of_srt hs
    simp only [opD, ho] at hx ⊢
    split at hx
    · rename_i k first cap hf
      split at hx
      · rename_i hk
        split at hx
        · rename_i r1 h1 hcc
          cases hx
          obtain ⟨m0, h0⟩ := of_lim hcc
          refine ⟨m0, fun m hm => ?_⟩
          rw [if_pos hk, ev_le P C hm _ _ _ _ h0]
        · cases hx
      · cases hx
    · cases hx
  · refine ⟨0, fun m _ => ?_⟩
    rw [← hx]
    unfold opD
    cases ho : o.op <;> try rfl
    rename_i c
    obtain ⟨callee, args, argTypes⟩ := c
    cases callee with
    | value v => simp [srt, ho] at hs
    | invoke r m => rfl
    | builtin b => cases b <;> rfl

theorem opsD_cont : ∀ (l : List Oper) (t : List DV) (h : DHeap), opsD P C f (lim P C) ops l t h = some r → ∃ m0, ∀ m, m0 ≤ m → opsD P C f (ev P C m) ops l t h = some r
  | [], t, h, hx => ⟨0, fun m _ => hx⟩
  | o :: l, t, h, hx => by
    simp only [opsD] at hx ⊢
    split at hx
    · split at hx
      · rename_i t1 h1 hop
        obtain ⟨m1, e1⟩ := opD_cont hop
        obtain ⟨m2, e2⟩ := opsD_cont l _ _ hx
        refine ⟨max m1 m2, fun m hm => ?_⟩
        rw [e1 m (by omega)]
        exact e2 m (by omega)
      · cases hx
    · exact opsD_cont l _ _ hx
    · cases hx

theorem stepX_cont (hx : stepX P C f (lim P C) ops rs fs o t h = some r) : ∃ m0, ∀ m, m0 ≤ m → stepX P C f (ev P C m) ops rs fs o t h = some r := by
  unfold stepX at hx ⊢
  split at hx
  · rename_i hp
    simp only [if_pos hp]
    split at hx
    · split at hx
      · rename_i t1 h1 hop
        obtain ⟨m1, e1⟩ := opD_cont hop
        exact ⟨m1, fun m hm => by simp only [e1 m hm]; exact hx⟩
      · cases hx
    · exact ⟨0, fun m _ => hx⟩
    · cases hx
  · cases hx

theorem runX_cont : ∀ (l : List Oper) (t : List DV) (h : DHeap), runX P C f (lim P C) ops rs fs l t h = some r → ∃ m0, ∀ m, m0 ≤ m → runX P C f (ev P C m) ops rs fs l t h = some r
  | [], t, h, hx => ⟨0, fun m _ => hx⟩
  | o :: l, t, h, hx => by
    simp only [runX] at hx ⊢
    split at hx
    · rename_i t1 h1 hop
      obtain ⟨m1, e1⟩ := stepX_cont hop
      obtain ⟨m2, e2⟩ := runX_cont l _ _ hx
      refine ⟨max m1 m2, fun m hm => ?_⟩
      rw [e1 m (by omega)]
      exact e2 m (by omega)
    · cases hx

theorem regionD_cont {draw : Bool} (hx : regionD P C f (lim P C) ops draw t h = some r) : ∃ m0, ∀ m, m0 ≤ m → regionD P C f (ev P C m) ops draw t h = some r := by
  unfold regionD at hx ⊢
  cases draw with
  | false => exact opsD_cont _ _ _ hx
  | true =>
    cases hm : P.follows .mixedOrders with
    | false => rw [hm] at hx; cases hx
    | true =>
      cases hd : drawOK C f ops with
      | none => rw [hm, hd] at hx; cases hx
      | some q =>
        rw [hm, hd] at hx
        dsimp only at hx ⊢
        split at hx
        · rename_i hst
          simp only [if_pos hst]
          exact runX_cont _ _ _ hx
        · cases hx

theorem iterD_cont {b : List DV → DHeap → Option (XD × List DV × DHeap)} {b' : Nat → List DV → DHeap → Option (XD × List DV × DHeap)} (hb : ∀ t h r, b t h = some r → ∃ m0, ∀ m, m0 ≤ m → b' m t h = some r) {r : XD × List DV × DHeap} :
    ∀ (n : Nat) (t : List DV) (h : DHeap), iterD b n t h = some r → ∃ m0, ∀ m, m0 ≤ m → iterD (b' m) n t h = some r
  | 0, t, h, hx => by cases hx
  | n + 1, t, h, hx => by
    simp only [iterD] at hx ⊢
    split at hx
    · rename_i t1 h1 hop
      obtain ⟨m1, e1⟩ := hb _ _ _ hop
      obtain ⟨m2, e2⟩ := iterD_cont hb n _ _ hx
      refine ⟨max m1 m2, fun m hm => ?_⟩
      rw [e1 m (by omega)]
      exact e2 m (by omega)
    · rename_i j t1 h1 hop
      obtain ⟨m1, e1⟩ := hb _ _ _ hop
      exact ⟨m1, fun m hm => by rw [e1 m hm]; exact hx⟩
    · rename_i t1 h1 hop
      obtain ⟨m1, e1⟩ := hb _ _ _ hop
      exact ⟨m1, fun m hm => by rw [e1 m hm]; exact hx⟩
    · cases hx

theorem codeD_cont {n : Nat} : ∀ (c : Code) (t : List DV) (h : DHeap) (r : XD × List DV × DHeap), codeD P C f (lim P C) (regionD P C f (lim P C)) n c t h = some r → ∃ m0, ∀ m, m0 ≤ m → codeD P C f (ev P C m) (regionD P C f (ev P C m)) n c t h = some r := by
  intro c
  induction c with
  | region id ops draw =>
    intro t h r hx
    simp only [codeD] at hx ⊢
    split at hx
    · rename_i t1 h1 hr
      obtain ⟨m1, e1⟩ := regionD_cont hr
      exact ⟨m1, fun m hm => by rw [e1 m hm]; exact hx⟩
    · cases hx
  | seq a b iha ihb =>
    intro t h r hx
    simp only [codeD] at hx ⊢
    split at hx
    · rename_i t1 h1 hr
      obtain ⟨m1, e1⟩ := iha _ _ _ hr
      obtain ⟨m2, e2⟩ := ihb _ _ _ hx
      refine ⟨max m1 m2, fun m hm => ?_⟩
      rw [e1 m (by omega)]
      exact e2 m (by omega)
    · rename_i j t1 h1 hr
      obtain ⟨m1, e1⟩ := iha _ _ _ hr
      exact ⟨m1, fun m hm => by rw [e1 m hm]; exact hx⟩
    · rename_i t1 h1 hr
      obtain ⟨m1, e1⟩ := iha _ _ _ hr
      exact ⟨m1, fun m hm => by rw [e1 m hm]; exact hx⟩
    · cases hx
  | cond o a b iha ihb =>
    intro t h r hx
    simp only [codeD] at hx ⊢
    split at hx
    · exact iha _ _ _ hx
    · exact ihb _ _ _ hx
    · cases hx
  | block id c ih =>
    intro t h r hx
    simp only [codeD] at hx ⊢
    cases hc' : codeD P C f (lim P C) (regionD P C f (lim P C)) n c t h with
    | none => rw [hc'] at hx; cases hx
    | some q =>
      rw [hc'] at hx
      obtain ⟨m1, e1⟩ := ih _ _ _ hc'
      exact ⟨m1, fun m hm => by rw [e1 m hm]; exact hx⟩
  | scope c ih =>
    intro t h r hx
    simp only [codeD] at hx ⊢
    exact ih _ _ _ hx
  | loop c ih =>
    intro t h r hx
    simp only [codeD] at hx ⊢
    exact iterD_cont (fun t h r hb => ih _ h r hb) n t h hx
  | skip => intro t h r hx; exact ⟨0, fun m _ => by simpa only [codeD] using hx⟩
  | label l => intro t h r hx; exact ⟨0, fun m _ => by simpa only [codeD] using hx⟩
  | ret => intro t h r hx; exact ⟨0, fun m _ => by simpa only [codeD] using hx⟩
  | exit j => intro t h r hx; exact ⟨0, fun m _ => by simpa only [codeD] using hx⟩
  | _ => intro t h r hx; simp [codeD] at hx
end

/-- Code ends, and then Q. -/
def Run (P : Program) (C : Cfg) (f : FuncId) (c : Code) (t : List DV) (h : DHeap) (Q : XD → List DV → DHeap → Prop) : Prop :=
  ∃ n, Ends (codeD P C f (lim P C) (regionD P C f (lim P C)) n c t h) Q

section
variable {P : Program} {C : Cfg} {f : FuncId} {t : List DV} {h : DHeap} {Q : XD → List DV → DHeap → Prop}

theorem Run.mono {c : Code} {Q' : XD → List DV → DHeap → Prop} (H : Run P C f c t h Q) (hq : ∀ x t h, Q x t h → Q' x t h) : Run P C f c t h Q' := by
  obtain ⟨n, e⟩ := H
  exact ⟨n, e.mono hq⟩

theorem more {n n' : Nat} (hn : n ≤ n') {c : Code} (H : Ends (codeD P C f (lim P C) (regionD P C f (lim P C)) n c t h) Q) : Ends (codeD P C f (lim P C) (regionD P C f (lim P C)) n' c t h) Q := by
  obtain ⟨x, t', h', e, q⟩ := H
  exact ⟨x, t', h', codeD_mono (fun _ _ _ _ e => e) hn _ _ _ _ e, q⟩

/-- The rest of the code is put away. -/
theorem run_seq {a b : Code} (H : ∀ N : List DV → DHeap → Prop, (∀ t' h', Run P C f b t' h' Q → N t' h') → Run P C f a t h (Then N Q)) : Run P C f (.seq a b) t h Q := by
  obtain ⟨n, x, t', h', e, q⟩ := H (fun t' h' => Run P C f b t' h' Q) fun _ _ q => q
  cases x with
  | normal =>
    obtain ⟨n2, q2⟩ := q
    refine ⟨max n n2, ends_seq (more (Nat.le_max_left n n2) ⟨_, _, _, e, more (Nat.le_max_right n n2) q2⟩)⟩
  | exit j => exact ⟨n, ends_seq ⟨_, _, _, e, q⟩⟩
  | ret => exact ⟨n, ends_seq ⟨_, _, _, e, q⟩⟩

theorem run_reg {id : Nat} {ops : Array Oper} (H : After C f id Q (opsD P C f (lim P C) ops ops.toList t h)) : Run P C f (.region id ops false) t h Q := ⟨0, ends_reg H⟩

theorem run_draw {id : Nat} {ops : Array Oper} {rs fs : List Tmp} (hm : P.follows .mixedOrders = true) (hd : drawOK C f ops = some (rs, fs)) (hst : staysAt rs t = true) (H : After C f id Q (runX P C f (lim P C) ops rs fs ops.toList t h)) : Run P C f (.region id ops true) t h Q :=
  ⟨0, ends_reg (by simp only [regionD, hm, hd, hst, if_true]; exact H)⟩

theorem run_cond {c : Operand} {a b : Code} {p : Bool} (hc : opnd P 0 t c = .sc (.bool p)) (h1 : p = true → Run P C f a t h Q) (h2 : p = false → Run P C f b t h Q) : Run P C f (.cond c a b) t h Q := by
  cases p with
  | true =>
    obtain ⟨n, e⟩ := h1 rfl
    exact ⟨n, ends_cond hc (fun _ => e) (fun e => by cases e)⟩
  | false =>
    obtain ⟨n, e⟩ := h2 rfl
    exact ⟨n, ends_cond hc (fun e => by cases e) (fun _ => e)⟩

theorem run_block {id : Nat} {c : Code} (H : Run P C f c t h (Out id Q)) : Run P C f (.block id c) t h Q := by
  obtain ⟨n, e⟩ := H
  exact ⟨n, ends_block e⟩
theorem run_scope {c : Code} (H : Run P C f c t h Q) : Run P C f (.scope c) t h Q := by
  obtain ⟨n, e⟩ := H
  exact ⟨n, ends_scope e⟩
theorem run_skip (q : Q .normal t h) : Run P C f .skip t h Q := ⟨0, ends_skip q⟩
theorem run_label {l : Nat} (q : Q .normal t h) : Run P C f (.label l) t h Q := ⟨0, ends_label q⟩
theorem run_exit {j : Nat} (q : Q (.exit j) t h) : Run P C f (.exit j) t h Q := ⟨0, ends_exit q⟩
theorem run_ret (q : Q .ret t h) : Run P C f .ret t h Q := ⟨0, ends_ret q⟩

/-- Rounds: by what holds ahead of each, and a number that falls. -/
theorem run_loop {c : Code} (I : Nat → List DV → DHeap → Prop) {m : Nat} (h0 : I m t h)
    (hs : ∀ (m : Nat) (t : List DV) (h : DHeap), I m t h → Run P C f c (keepD C f (loopKey c) t) h (Then (fun t' h' => ∃ m', m' < m ∧ I m' t' h') Q)) : Run P C f (.loop c) t h Q := by
  induction m using Nat.strongRecOn generalizing t h with
  | ind m ih =>
    obtain ⟨n, x, t', h', e, q⟩ := hs m t h h0
    cases x with
    | normal =>
      obtain ⟨m', hm', hi⟩ := q
      obtain ⟨n2, y, t2, h2, e2, q2⟩ := ih m' hm' hi
      refine ⟨max n n2 + 1, y, t2, h2, ?_, q2⟩
      simp only [codeD] at e2 ⊢
      simp only [iterD]
      rw [codeD_mono (fun _ _ _ _ e => e) (show n ≤ max n n2 + 1 by omega) _ _ _ _ e]
      exact iterD_mono (fun t h r hb => codeD_mono (fun _ _ _ _ e => e) (show n2 ≤ max n n2 + 1 by omega) _ _ _ _ hb) n2 _ _ _ (by omega) e2
    | exit j => exact ⟨n + 1, _, _, _, by simp only [codeD, iterD]; rw [codeD_mono (fun _ _ _ _ e => e) (Nat.le_succ n) _ _ _ _ e], q⟩
    | ret => exact ⟨n + 1, _, _, _, by simp only [codeD, iterD]; rw [codeD_mono (fun _ _ _ _ e => e) (Nat.le_succ n) _ _ _ _ e], q⟩

/-- The frame at the start of a function. -/
def frame0 (fn : Func) (args : List DV) : List DV := args.map DV.shed ++ List.replicate (fn.ntmps - args.length) .junk

theorem body_cont {fn : Func} {c : Code} {k : FuncId} {args : List DV} (hf : P.funcs[k]? = some fn) (hb : fn.body = some c) {R : DV → DHeap → Prop} (H : Run P C k c (frame0 fn args) h (Fin P fn R)) :
    ∃ n r h', evBody P C (ev P C n) n k args h = some (r, h') ∧ R r h' := by
  obtain ⟨n, x, t, h1, e, q⟩ := H
  obtain ⟨m0, hm⟩ := codeD_cont _ _ _ _ e
  have e' := codeD_mono (f := k) (fun _ _ _ _ e => e) (Nat.le_max_left n m0) _ _ _ _ (hm (max n m0) (Nat.le_max_right n m0))
  unfold frame0 at e'
  refine ⟨max n m0, ?_⟩
  unfold evBody
  simp only [hf, hb, e']
  cases x with
  | normal =>
    obtain ⟨r1, hr, hq⟩ := q
    exact ⟨r1, h1, by simp only [hr], hq⟩
  | ret =>
    obtain ⟨r1, hr, hq⟩ := q
    exact ⟨r1, h1, by simp only [hr], hq⟩
  | exit j => exact q.elim

/-- A function that runs on a heap of its own. -/
theorem lim_pure {fn : Func} {c : Code} {k : FuncId} {args : List DV} {r : DV} (he : C.ext k = none) (hp : C.pure k = true) (hf : P.funcs[k]? = some fn) (hb : fn.body = some c) (ha : args.all heapFree = true) (hr : heapFree r = true)
    (H : Run P C k c (frame0 fn args) [] (Fin P fn fun r1 _ => r1 = r)) : lim P C k args h = some (r, h) := by
  obtain ⟨n, r1, h1, e, rfl⟩ := body_cont hf hb H
  exact lim_of (n := n + 1) (by simp only [ev, he, hp, ha, e, hr, if_true])

theorem lim_body {fn : Func} {c : Code} {k : FuncId} {args : List DV} {r : DV} {h' : DHeap} (he : C.ext k = none) (hp : C.pure k = false) (hg : C.gc k = false) (hf : P.funcs[k]? = some fn) (hb : fn.body = some c) (hr : r.plain = true)
    (H : Run P C k c (frame0 fn args) h (Fin P fn fun r1 h1 => r1 = r ∧ h1 = h')) : lim P C k args h = some (r, h') := by
  obtain ⟨n, r1, h1, e, rfl, rfl⟩ := body_cont hf hb H
  exact lim_of (n := n + 1) (by simp only [ev, he, hp, hg, e, hr, if_true, Bool.false_eq_true, if_false])
/-- A function behind which what it made in the heap is forgotten. -/
theorem lim_trim {fn : Func} {c : Code} {k : FuncId} {args : List DV} {r : DV} {h' : DHeap} (he : C.ext k = none) (hp : C.pure k = false) (hg : C.gc k = true) (hf : P.funcs[k]? = some fn) (hb : fn.body = some c) (hr : r.plain = true)
    (H : Run P C k c (frame0 fn args) h (Fin P fn fun r1 h1 => trim h.length r1 h1 = some (r, h'))) : lim P C k args h = some (r, h') := by
  obtain ⟨n, r1, h1, e, ht⟩ := body_cont hf hb H
  have hr1 : r1 = r := by
    unfold DS.trim at ht
    split at ht
    · cases ht; rfl
    · cases ht
  subst hr1
  exact lim_of (n := n + 1) (by simp only [ev, he, hp, hg, e, hr, ht, if_true])

theorem lim_ext {k : FuncId} {F : List DV → DHeap → Option (DV × DHeap)} {args : List DV} {r : DV} {h' : DHeap} (he : C.ext k = some F) (hF : F args h = some (r, h')) (hr : r.plain = true) : lim P C k args h = some (r, h') :=
  lim_of (n := 1) (by simp only [ev, he, hF, hr, if_true])
end
end Go.DS
