/-
  Operations that change variables, objects, or who may append: first part.
-/
import Derived.Test.YtpbknejlalkfjaaK1
import Derived.Scope
set_option linter.unusedSimpArgs false
set_option linter.unusedVariables false
namespace Go.DS
set_option linter.unusedSectionVars false
variable [M : Mono]
open Go
set_option linter.unusedVariables false

section
variable {P : Program} {o : Oper} {a : Act} {g : Gh} {w : World} {h : DHeap} {d : Nat} {t : List DV} {x : DV}

theorem RelT.put (hT : RelT g w d t a.tmps) {dst : Option Tmp} {v : Value} (hp : RelP g t a.tmps x v) (ho : ∀ s, dst = some s → OwnAt g w (.ownSlot d s) x v) :
    RelT g w d (putD t dst x) (a.put dst v).tmps := by
  cases dst with
  | none => exact hT
  | some s =>
    refine hT.set s hp.notBox ?_
    by_cases hpl : x.plain = true
    · rw [RelS.plain_iff hpl]
      rw [RelP.of_plain hpl] at hp
      exact ⟨hp, ho s rfl⟩
    · cases x <;> simp [DV.plain, DV.isBox, DV.isPath] at hpl
      · exact hp.elim
      · rename_i s' off
        intro cs hcs
        by_cases e : s = s'
        · subst e
          rw [List.getElem?_set] at hcs
          simp only [if_true] at hcs
          split at hcs
          · cases hcs
          · cases hcs
        · rw [List.getElem?_set_ne e] at hcs
          obtain ⟨b, hv, hb⟩ := hp cs hcs
          exact ⟨b, hv, by rw [Array.getElem?_setIfInBounds_ne e]; exact hb⟩

theorem RelT.put_junk (hT : RelT g w d t a.tmps) {dst : Option Tmp} {v : Value} : RelT g w d (putD t dst .junk) (a.put dst v).tmps :=
  hT.put (RelV.junk v).relP (fun _ _ => .none rfl)

/-- What an operation that goes on in the same function comes to. -/
def StepOut (P : Program) (o : Oper) (a : Act) (g : Gh) (w : World) (d : Nat) (t' : List DV) (h' : DHeap) : Prop :=
  ∃ g' w' v, ((execOp a.eval o).run P w = .ok (.value v) w' ∨ ((execOp a.eval o).run P w = .ok .skip w' ∧ v = undef)) ∧ Ext d g g' w w' ∧ WInv g' h' w' ∧ RelT g' w' d t' (a.put o.dst v).tmps

theorem CalmOut.step (hT : RelT g w d t a.tmps) (hc : CalmOut P o a g w h d t x) : StepOut P o a g w d (putD t o.dst x) h := by
  obtain ⟨g', w', v, hr, he, hW, hp, ho⟩ := hc
  exact ⟨g', w', v, .inl hr, he.mono (Nat.le_succ d), hW, (he.relT (Nat.lt_succ_self d) hT).put hp (fun s _ => ho _)⟩

/-- The right to append is handed on. -/
def Gh.rekind (g : Gh) (b : Nat) (k : Kind) : Gh := { g with kind := fun c => if c = b then k else g.kind c }

theorem touch_rekind (hpc : ∀ b o v, g.pc b o = some v → w.cell? ⟨b, o, none⟩ = some v) (b : Nat) (k : Kind) : Touch b g (g.rekind b k) w w where
  heap _ _ _ := rfl
  pcb _ _ hv := hv
  pcx _ _ := rfl
  pcw o v hv := hpc b o v hv
  kind c hc := by simp [Gh.rekind, hc]
  n := Nat.le_refl _
  η _ _ := rfl
  sz _ _ := rfl
  size := Nat.le_refl _
  os := rfl
  tape := rfl
  output := rfl
  drawn _ := Nat.le_refl _

theorem cst_own (p : Kind) (ty : TypeId) (v : Value) : OwnAt g w p (cst P ty v) v := by
  unfold cst
  split
  · exact .none rfl
  · unfold c1
    split
    · intro es' l' a' cap' o1 o2 hlt
      cases o1
      simp only [hdr1, Option.some.injEq, Prod.mk.injEq] at o2
      obtain ⟨rfl, rfl⟩ := o2
      simp at hlt
    · split <;> exact .none rfl
    · exact .none rfl

theorem opnd_own {ty : TypeId} {s : Tmp} (h : (own1 (opnd P ty t (.tmp s))).isSome = true) : t[s]? = some (opnd P ty t (.tmp s)) ∧ (opnd P ty t (.tmp s)).plain = true := by
  simp only [opnd] at h ⊢
  cases hs : t[s]? with
  | none => simp [hs, own1] at h
  | some z => cases z <;> simp [hs, own1] at h ⊢ <;> rfl

theorem opnd_list {ty : TypeId} {s : Tmp} {own : Bool} {es : Nat} {l : List (List DV)} (heq : opnd P ty t (.tmp s) = .list own es l) : t[s]? = some (.list own es l) := by
  simp only [opnd] at heq
  cases hs : t[s]? with
  | none => simp [hs] at heq
  | some z => cases z <;> simp [hs] at heq <;> simp [heq]

theorem take_rel (hT : RelT g w d t a.tmps) (hW : WInv g h w) {ty : TypeId} {x : Operand} {y : DV} {t' : List DV} (hy : takeD P ty t x = (y, t')) (p : Kind) :
    ∃ g', g'.pc = g.pc ∧ g'.η = g.η ∧ g'.n = g.n ∧ Ext d g g' w w ∧ WInv g' h w ∧ RelT g' w d t' a.tmps ∧ RelP g' t a.tmps y (a.eval x) ∧ OwnAt g' w p y (a.eval x) ∧
      ((∀ b, g'.kind b = g.kind b) ∨ ∃ b s, (∀ c, c ≠ b → g'.kind c = g.kind c) ∧ g.kind b = .ownSlot d s ∧ g'.kind b = p) := by
  have hx := opnd_rel (P := P) hT ty x
  unfold takeD at hy
  split at hy
  · rename_i s
    split at hy
    · rename_i hown1
      cases hy
      obtain ⟨hts, hpl⟩ := opnd_own hown1
      generalize hd : opnd P ty t (.tmp s) = y at *
      obtain ⟨v, hv, hrel, hown⟩ := hT.getV hts hpl
      have hev : a.eval (.tmp s) = v := by simp only [Act.eval]; exact getD_of_get hv
      rw [hev] at hx ⊢
      by_cases hlt : ∃ es l ad cap, own1 y = some (es, l) ∧ hdr1 y v = some (ad, cap) ∧ l.length < cap
      · obtain ⟨es, l, ad, cap, e1, e2, e3⟩ := hlt
        obtain ⟨b, off, c, et, ha, hk, hh, hsz, hpc⟩ := hown es l ad cap e1 e2 e3
        have htouch := touch_rekind hW.pc b p
        have hne : g.kind b = .ownSlot d s := hk
        refine ⟨g.rekind b p, rfl, rfl, rfl, htouch.ext (.inr (by rw [hne]; simp [Keep])), htouch.winv rfl (.inr ⟨fun i => by rw [hne]; simp, fun i k => by rw [hne]; simp⟩) hW, ?_, hx.mono htouch.le, ?_, ?_⟩
        · refine ⟨by simp [hT.len], fun s' z u hz hu => ?_⟩
          by_cases e : s = s'
          · subst e
            have hs : s < t.length := (List.getElem?_eq_some_iff.1 hts).1
            rw [List.getElem?_set_self hs] at hz
            cases hz
            rw [hv] at hu
            cases hu
            rw [RelS.plain_iff (by rw [shed_plain]; exact hpl)]
            exact ⟨(hrel.mono htouch.le).shed, OwnAt.shed⟩
          · rw [List.getElem?_set_ne e] at hz
            have h1 := htouch.relS (d := d) (.inr ⟨by rw [hne]; simp, by rw [hne]; simp [e], fun k => by rw [hne]; simp⟩) (hT.at_ s' z u hz hu)
            by_cases hp : z.plain = true
            · rw [RelS.plain_iff hp] at *; exact h1
            · cases z <;> simp [DV.plain, DV.isBox, DV.isPath] at hp
              · exact h1
              · rename_i s₁ off₁
                intro cs hcs
                by_cases e₁ : s = s₁
                · subst e₁
                  rw [List.getElem?_set] at hcs
                  simp only [if_true] at hcs
                  split at hcs
                  · have h2 : y.shed = .box cs := Option.some.inj hcs
                    have := shed_plain y
                    rw [hpl, h2] at this
                    cases this
                  · cases hcs
                · rw [List.getElem?_set_ne e₁] at hcs
                  exact h1 cs hcs
        · intro es' l' ad' cap' f1 f2 f3
          rw [e1] at f1; cases f1
          rw [e2] at f2; cases f2
          exact ⟨b, off, c, et, ha, by simp [Gh.rekind], hh, hsz, hpc⟩
        · exact .inr ⟨b, s, fun c hc => by simp [Gh.rekind, hc], hne, by simp [Gh.rekind]⟩
      · refine ⟨g, rfl, rfl, rfl, .refl _ _ _, hW, hT.weaken s (by rw [shed_isBox]; cases y <;> first | rfl | simp [DV.plain, DV.isBox] at hpl) (fun x u hx' hu hr => ?_), hx, fun es' l' ad' cap' f1 f2 f3 => (hlt ⟨es', l', ad', cap', f1, f2, f3⟩).elim, .inl fun _ => rfl⟩
        rw [hts] at hx'; cases hx'
        rw [RelS.plain_iff hpl] at hr
        rw [RelS.plain_iff (by rw [shed_plain]; exact hpl)]
        exact ⟨hr.1.shed, OwnAt.shed⟩
    · cases hy
      exact ⟨g, rfl, rfl, rfl, .refl _ _ _, hW, hT, hx.shed, OwnAt.shed, .inl fun _ => rfl⟩
  · rename_i v
    cases hy
    exact ⟨g, rfl, rfl, rfl, .refl _ _ _, hW, hT, hx, cst_own p ty v, .inl fun _ => rfl⟩
  · cases hy
    exact ⟨g, rfl, rfl, rfl, .refl _ _ _, hW, hT, hx.shed, OwnAt.shed, .inl fun _ => rfl⟩

theorem takeD_box {ty : TypeId} {x : Operand} {y : DV} {t' : List DV} (hy : takeD P ty t x = (y, t')) (s : Nat) (cs : List DV) : t'[s]? = some (.box cs) ↔ t[s]? = some (.box cs) := by
  unfold takeD at hy
  split at hy
  · rename_i s'
    split at hy
    · rename_i h1
      cases hy
      obtain ⟨hts, hpl⟩ := opnd_own h1
      by_cases e : s' = s
      · subst e
        have hs : s' < t.length := (List.getElem?_eq_some_iff.1 hts).1
        rw [List.getElem?_set_self hs, hts]
        generalize opnd P ty t (.tmp s') = y at *
        constructor
        · intro e
          have h2 : y.shed = .box cs := Option.some.inj e
          have := shed_plain y
          rw [hpl, h2] at this
          cases this
        · intro e
          cases e
          cases hpl
      · rw [List.getElem?_set_ne e]
    · cases hy
      exact Iff.rfl
  · cases hy; exact Iff.rfl
  · cases hy; exact Iff.rfl

/-- The same places, where the same slots are variables. -/
theorem RelP.box_iff {tmps : Array Value} {t' : List DV} {y : DV} {v : Value} (hb : ∀ (s : Nat) (cs : List DV), t'[s]? = some (DV.box cs) ↔ t[s]? = some (DV.box cs)) (hp : RelP g t tmps y v) : RelP g t' tmps y v := by
  cases y <;> simp only [RelP] at * <;> try exact hp
  intro cs hcs
  exact hp cs ((hb _ _).1 hcs)

theorem step_take (hT : RelT g w d t a.tmps) (hW : WInv g h w) {ty : TypeId} {z : Operand} {y : DV} {t' : List DV} (hy : takeD P ty t z = (y, t')) (hr : (execOp a.eval o).run P w = .ok (.value (a.eval z)) w) :
    StepOut P o a g w d (putD t' o.dst y) h := by
  cases hd : o.dst with
  | none =>
    obtain ⟨g', _, _, _, he, hW', hT', _, _, _⟩ := take_rel hT hW hy .data
    exact ⟨g', w, _, .inl hr, he, hW', by rw [hd]; exact hT'⟩
  | some s =>
    obtain ⟨g', _, _, _, he, hW', hT', hp, ho, _⟩ := take_rel hT hW hy (.ownSlot d s)
    refine ⟨g', w, _, .inl hr, he, hW', ?_⟩
    rw [hd]
    exact hT'.put (hp.box_iff (takeD_box hy)) (fun s' hs' => by cases hs'; exact ho)

theorem step_extract (hT : RelT g w d t a.tmps) (hW : WInv g h w) {z : Operand} {i : Nat} (ho : o.op = .extract z i) {r : List DV × DHeap} (hr : headD i o.dst h (takeD P o.type t z) = some r) : StepOut P o a g w d r.1 r.2 := by
  generalize hy : takeD P o.type t z = q at hr
  obtain ⟨y, t'⟩ := q
  unfold headD at hr
  split at hr
  · rename_i y0 ys t0 heq
    cases heq
    split at hr
    · rename_i hi
      subst hi
      cases hr
      have key : ∀ p, ∃ g' v, (execOp a.eval o).run P w = .ok (.value v) w ∧ Ext d g g' w w ∧ WInv g' h w ∧ RelT g' w d t' a.tmps ∧ RelV g' (hd1 y0) v ∧ OwnAt g' w p (hd1 y0) v := fun p => by
        obtain ⟨g', _, _, _, he, hW', hT', hp, ho', _⟩ := take_rel hT hW hy p
        have hp' : RelV g' (.tup (y0 :: ys)) (a.eval z) := hp
        generalize hv : a.eval z = u at hp' ho'
        cases hp' with
        | tup h1 h2 =>
          rename_i vs
          cases vs with
          | nil => simp at h1
          | cons v vs =>
            refine ⟨g', v, by simp [execOp, ho, hv, Instr.extract], he, hW', hT', ?_, ?_⟩
            · have := h2 0 y0 v rfl rfl
              cases y0 <;> first | exact this | exact this.shed | exact .junk _
            · have h3 : (v :: vs).toArray[0]? = some v := by simp
              cases y0 <;> first | exact OwnAt.shed | exact ho'.head h3 ⟨_, _, _, rfl⟩ | exact .none rfl
      cases hd : o.dst with
      | none =>
        obtain ⟨g', v, h1, h2, h3, h4, _, _⟩ := key .data
        exact ⟨g', w, v, .inl h1, h2, h3, by rw [hd]; exact h4⟩
      | some s =>
        obtain ⟨g', v, h1, h2, h3, h4, h5, h6⟩ := key (.ownSlot d s)
        refine ⟨g', w, v, .inl h1, h2, h3, ?_⟩
        rw [hd]
        exact h4.put (dst := some s) h5.relP (fun s' hs' => by cases hs'; exact h6)
    · cases hr
  · cases hr

theorem step_assign (hT : RelT g w d t a.tmps) (hW : WInv g h w) {z : Operand} (ho : o.op = .move z ∨ o.op = .assign z) {y : DV} {t' : List DV} (hy : takeD P o.type t z = (y, t')) : StepOut P o a g w d (putD t' o.dst y) h :=
  step_take hT hW hy (by rcases ho with ho | ho <;> simp [execOp, ho])
end
end Go.DS

/-
  New variables, stores.
-/
namespace Go.DS
set_option linter.unusedSectionVars false
variable [M : Mono]
open Go
set_option linter.unusedVariables false

section
variable {P : Program} {o : Oper} {a : Act} {g : Gh} {w : World} {h : DHeap} {d : Nat} {t : List DV} {x : DV}

/-- A new block becomes object g.n, or a variable. -/
def Gh.addObj (g : Gh) (b : Nat) : Gh := { g with n := g.n + 1, η := fun i => if i = g.n then b else g.η i, kind := fun c => if c = b then .obj g.n else g.kind c }

theorem pc_fresh (hpc : ∀ b o v, g.pc b o = some v → w.cell? ⟨b, o, none⟩ = some v) {b : Nat} (hb : w.heap.size ≤ b) (o : Nat) : g.pc b o = none := by
  cases h : g.pc b o with
  | none => rfl
  | some v => have := lt_of_cell (hpc _ _ _ h); omega

theorem touch_addObj (hpc : ∀ b o v, g.pc b o = some v → w.cell? ⟨b, o, none⟩ = some v) (ob : Obj) : Touch w.heap.size g (g.addObj w.heap.size) w (w.alloc ob) where
  heap c hc hl := by
    show (w.heap.push _)[c]? = _
    rw [Array.getElem?_push, if_neg (by omega)]
  pcb o v hv := by rw [pc_fresh hpc (Nat.le_refl _)] at hv; cases hv
  pcx c hc := rfl
  pcw o v hv := by
    have : g.pc w.heap.size o = some v := hv
    rw [pc_fresh hpc (Nat.le_refl _)] at this; cases this
  kind c hc := by simp [Gh.addObj, hc]
  n := Nat.le_succ _
  η i hi := by simp [Gh.addObj]; omega
  sz i hi := rfl
  size := by show _ ≤ (w.heap.push _).size; simp
  os := rfl
  tape := rfl
  output := rfl
  drawn _ := Nat.le_refl _

theorem touch_box (hpc : ∀ b o v, g.pc b o = some v → w.cell? ⟨b, o, none⟩ = some v) (ob : Obj) (k : Kind) : Touch w.heap.size g (g.rekind w.heap.size k) w (w.alloc ob) where
  heap c hc hl := by
    show (w.heap.push _)[c]? = _
    rw [Array.getElem?_push, if_neg (by omega)]
  pcb o v hv := hv
  pcx c hc := rfl
  pcw o v hv := by
    have : g.pc w.heap.size o = some v := hv
    rw [pc_fresh hpc (Nat.le_refl _)] at this; cases this
  kind c hc := by simp [Gh.rekind, hc]
  n := Nat.le_refl _
  η i hi := rfl
  sz i hi := rfl
  size := by show _ ≤ (w.heap.push _).size; simp
  os := rfl
  tape := rfl
  output := rfl
  drawn _ := Nat.le_refl _

theorem heap_new (w : World) (ob : Obj) : (w.alloc ob).heap[w.heap.size]? = some ob := by
  show (w.heap.push _)[w.heap.size]? = _
  rw [Array.getElem?_push, if_pos rfl]

theorem winv_push (hW : WInv g h w) {ob : Obj} {dob : DObj} (hn : RelO (g.addObj w.heap.size) (w.alloc ob) g.n dob) : WInv (g.addObj w.heap.size) (h ++ [dob]) (w.alloc ob) where
  n := by simp [Gh.addObj, hW.n]
  pc := (touch_addObj hW.pc ob).pc hW.pc
  obj i o' ho := by
    rw [List.getElem?_append] at ho
    split at ho
    · rename_i hi
      exact (touch_addObj hW.pc ob).relO (hW.n ▸ hi) (.inl (Nat.le_refl _)) (hW.obj i o' ho)
    · rename_i hi
      rw [List.getElem?_singleton] at ho
      split at ho
      · rename_i hi'
        cases ho
        have : i = g.n := by rw [← hW.n]; omega
        subst this; exact hn
      · cases ho

/-- Cells without a right to append stand in a block as they are. -/
theorem held_of_shed {g' : Gh} {w' : World} {b : Nat} {kb : Kind} {own : Nat → Kind} {cs : List DV} {vs : Array Value} {et : TypeId} (h1 : w'.heap[b]? = some (.cells vs et (0, 0))) (h2 : g'.kind b = kb)
    (h3 : ∀ o, g'.pc b o = none) (h4 : RelL g' cs vs.toList) (h5 : ∀ (g : Gh) (w : World) (p : Kind) (k : Nat) (c : DV) (v : Value), cs[k]? = some c → vs[k]? = some v → OwnAt g w p c v) : Held g' w' b kb own cs :=
  ⟨vs, et, h1, h2, h3, h4, fun k e v he hv => h5 _ _ _ k e v he hv⟩
theorem own_of_shed {cs : List DV} {vs : Array Value} (h5 : ∀ c ∈ cs, c.shed = c) : ∀ (g : Gh) (w : World) (p : Kind) (k : Nat) (c : DV) (v : Value), cs[k]? = some c → vs[k]? = some v → OwnAt g w p c v :=
  fun g w p k e v he hv => ownAt_of_shed (h5 e (List.mem_of_getElem? he))

theorem killPath_get (s : Nat) (i : Nat) (y : DV) : (killPath s t)[i]? = some y → (∃ off, t[i]? = some (.path s off) ∧ y = .junk) ∨ (t[i]? = some y ∧ ∀ off, y ≠ .path s off) := by
  intro hy
  unfold killPath at hy
  rw [List.getElem?_map] at hy
  cases hz : t[i]? with
  | none => rw [hz] at hy; cases hy
  | some z =>
    rw [hz] at hy
    cases z <;> simp at hy <;> try (subst hy; exact .inr ⟨rfl, fun off => by simp⟩)
    rename_i s' off
    by_cases e : s' = s
    · subst e; simp at hy; exact .inl ⟨off, rfl, hy.symm⟩
    · simp [e] at hy; subst hy; exact .inr ⟨rfl, fun off' => by simp [e]⟩

theorem killPath_len (s : Nat) : (killPath s t).length = t.length := by simp [killPath]

/-- A slot becomes a variable in a new block. -/
theorem relT_box {g' : Gh} {w' : World} (hT : RelT g' w' d t a.tmps) {s : Nat} {cs : List DV} {b : Nat} (hh : Held g' w' b (.box d s) (fun k => .ownCell d s k) cs) :
    RelT g' w' d ((killPath s t).set s (.box cs)) (a.tmps.setIfInBounds s (.pointer (some ⟨b, 0, none⟩))) where
  len := by simp [killPath_len, hT.len]
  at_ i y v hy hv := by
    by_cases e : s = i
    · subst e
      have hs : s < (killPath s t).length := by have := (List.getElem?_eq_some_iff.1 hy).1; simpa using this
      rw [List.getElem?_set_self hs] at hy
      rw [Array.getElem?_setIfInBounds_self_of_lt (by rw [← hT.len, ← killPath_len (t := t) s]; exact hs)] at hv
      cases hy; cases hv
      exact ⟨b, rfl, hh⟩
    · rw [List.getElem?_set_ne e] at hy
      rw [Array.getElem?_setIfInBounds_ne e] at hv
      rcases killPath_get s i y hy with ⟨off, _, rfl⟩ | ⟨hy', hnp⟩
      · exact ⟨.junk _, OwnAt.none rfl⟩
      · have hr := hT.at_ i y v hy' hv
        by_cases hp : y.plain = true
        · rw [RelS.plain_iff hp] at *; exact hr
        · cases y <;> simp [DV.plain, DV.isBox, DV.isPath] at hp
          · exact hr
          · rename_i s₁ off
            have hne : s ≠ s₁ := fun e' => hnp off (by rw [e'])
            intro cs' hcs'
            rw [List.getElem?_set_ne hne] at hcs'
            rw [Array.getElem?_setIfInBounds_ne hne]
            rcases killPath_get s s₁ _ hcs' with ⟨_, _, hj⟩ | ⟨h1, _⟩
            · cases hj
            · exact hr cs' h1

theorem cellsD_shed (y : DV) : ∀ c ∈ cellsD y.shed, c.shed = c := by
  intro c hc
  have hc0 := hc
  cases y <;> try (simp [cellsD, DV.shed] at hc <;> try (subst hc; rfl))
  · obtain ⟨e, _, rfl⟩ := hc
    exact shed_shed e
  · rename_i cs
    have h1 := shed_shed (.tup cs)
    obtain ⟨ds, e⟩ := shed_tup_or cs
    rw [e] at hc0 h1
    simp only [cellsD, List.mem_singleton] at hc0
    rw [hc0, h1]

theorem newVar_sound {C : Cfg} {f : FuncId} (hT : RelT g w d t a.tmps) (hW : WInv g h w) {e : TypeId} {cs : List DV} {vs : Array Value} (hr : RelL g cs vs.toList) (hs : ∀ (g : Gh) (w : World) (p : Kind) (k : Nat) (c : DV) (v : Value), cs[k]? = some c → vs[k]? = some v → OwnAt g w p c v)
    {t' : List DV} {h' : DHeap} (hn : newVar C f o.dst t h cs = some (t', h')) (hrun : (execOp a.eval o).run P w = .ok (.value (.pointer (some ⟨w.heap.size, 0, none⟩))) (w.alloc (.cells vs e))) :
    StepOut P o a g w d t' h' := by
  unfold newVar at hn
  split at hn
  · split at hn
    · rename_i s hd
      split at hn
      · cases hn
        have htouch := touch_addObj hW.pc (.cells vs e)
        have hheld : Held (g.addObj w.heap.size) (w.alloc (.cells vs e)) w.heap.size (.obj g.n) (fun k => .ownObj g.n k) cs :=
          held_of_shed (heap_new w _) (by simp [Gh.addObj]) (fun o' => pc_fresh hW.pc (Nat.le_refl _) o') (hr.mono htouch.le) hs
        have hη : (g.addObj w.heap.size).η g.n = w.heap.size := by simp [Gh.addObj]
        refine ⟨_, _, _, .inl hrun, htouch.ext (.inl (Nat.le_refl _)), winv_push hW (by simp only [RelO, hη]; exact hheld), ?_⟩
        have hT' := htouch.relT (d := d) (.inl (Nat.le_refl _)) hT
        have := hT'.put (dst := some s) (x := .ptr h.length 0) (v := .pointer (some ⟨w.heap.size, 0, none⟩)) (by
          have := RelV.ptr (g := g.addObj w.heap.size) (i := g.n) (off := 0) (by simp [Gh.addObj])
          rw [hη, ← hW.n] at this
          exact this.relP) (fun _ _ => .none rfl)
        rw [hd]; exact this
      · cases hn
        have htouch := touch_box hW.pc (.cells vs e) (.box d s)
        have hheld : Held (g.rekind w.heap.size (.box d s)) (w.alloc (.cells vs e)) w.heap.size (.box d s) (fun k => .ownCell d s k) cs :=
          held_of_shed (heap_new w _) (by simp [Gh.rekind]) (fun o' => pc_fresh hW.pc (Nat.le_refl _) o') (hr.mono htouch.le) hs
        refine ⟨_, _, _, .inl hrun, htouch.ext (.inl (Nat.le_refl _)), htouch.winv rfl (.inl (Nat.le_refl _)) hW, ?_⟩
        have hT' := htouch.relT (d := d) (.inl (Nat.le_refl _)) hT
        rw [hd]
        exact relT_box hT' hheld
    · cases hn
  · cases hn

theorem step_box {C : Cfg} {f : FuncId} (hT : RelT g w d t a.tmps) (hW : WInv g h w) {ty : TypeId} {z : Operand} (ho : o.op = .box ty z) {t' : List DV} {h' : DHeap}
    (hn : newVar C f o.dst t h (cellsD (opnd P ty t z).shed) = some (t', h')) : StepOut P o a g w d t' h' := by
  have hall : (cellsD (opnd P ty t z).shed).all DV.cell = true := by
    unfold newVar at hn
    split at hn
    · assumption
    · cases hn
  have hr := (opnd_rel (P := P) hT ty z).shed
  rw [RelP.of_plain (all_plain_of_cell hall)] at hr
  exact newVar_sound hT hW (cells_rel hr hall).1 (own_of_shed (cellsD_shed _)) hn (e := ty) (by simp [execOp, ho, Instr.box, Go.newVar, newRow])

theorem c1_own (g : Gh) (w : World) (p : Kind) (ty : TypeId) (v : Value) : OwnAt g w p (c1 P ty v) v := by
  unfold c1
  split
  · intro es' l' a' cap' o1 o2 hlt
    cases o1
    simp only [hdr1, Option.some.injEq, Prod.mk.injEq] at o2
    obtain ⟨rfl, rfl⟩ := o2
    simp at hlt
  · split <;> exact .none rfl
  · exact .none rfl
theorem cz_own (g : Gh) (w : World) (p : Kind) : ∀ (ts : List TypeId) (vs : List Value) (k : Nat) (c : DV) (v : Value), (cz P ts vs)[k]? = some c → vs[k]? = some v → OwnAt g w p c v
  | t :: ts, u :: vs, 0, c, v, h1, h2 => by simp [cz] at h1 h2; subst h1; subst h2; exact c1_own g w p t u
  | t :: ts, u :: vs, k + 1, c, v, h1, h2 => cz_own g w p ts vs k c v (by simpa [cz] using h1) (by simpa using h2)
  | [], u :: vs, 0, c, v, h1, h2 => by simp [cz] at h1 h2; subst h1; subst h2; exact .none rfl
  | [], u :: vs, k + 1, c, v, h1, h2 => cz_own g w p [] vs k c v (by simpa [cz] using h1) (by simpa using h2)
  | [], [], k, c, v, h1, h2 => by simp at h2
  | _ :: _, [], k, c, v, h1, h2 => by simp at h2
theorem cellsZ_ok (ty : TypeId) (v : Value) : RelL g (cellsZ (cst P ty v)) v.cells.toList ∧ ∀ (g : Gh) (w : World) (p : Kind) (k : Nat) (c : DV) (u : Value), (cellsZ (cst P ty v))[k]? = some c → v.cells[k]? = some u → OwnAt g w p c u := by
  by_cases hv : ∃ vs, v = .agg vs
  · obtain ⟨vs, rfl⟩ := hv
    refine ⟨cz_rel g P _ _, fun g w p k c u h1 h2 => cz_own g w p _ _ k c u h1 (by simpa [Value.cells] using h2)⟩
  · have h1 : cst P ty v = c1 P ty v := by
      unfold cst
      split
      · exact (hv ⟨_, rfl⟩).elim
      · rfl
    have h2 : cellsZ (c1 P ty v) = [c1 P ty v] := by
      unfold c1
      split
      · rfl
      · split <;> rfl
      · rfl
    have h3 : v.cells = #[v] := by
      cases v <;> first | rfl | exact (hv ⟨_, rfl⟩).elim
    rw [h1, h2, h3]
    refine ⟨.cons (c1_rel g P ty v) (.nil g), fun g w p k c u q1 q2 => ?_⟩
    cases k with
    | zero => simp at q1 q2; subst q1; subst q2; exact c1_own g w p ty v
    | succ k => simp at q1
theorem step_alloc {C : Cfg} {f : FuncId} (hT : RelT g w d t a.tmps) (hW : WInv g h w) {ty : TypeId} (ho : o.op = .alloc ty) {z : DV} (hz : zeroD P ty = some z) {t' : List DV} {h' : DHeap}
    {r : Bool} (hn : newVar C f o.dst t h (zcells r z) = some (t', h')) : StepOut P o a g w d t' h' := by
  cases r with
  | false =>
    have hn : newVar C f o.dst t h (cellsD z.shed) = some (t', h') := hn
    have hall : (cellsD z.shed).all DV.cell = true := by
      unfold newVar at hn
      split at hn
      · assumption
      · cases hn
    obtain ⟨v, hv, hr, _⟩ := zeroD_rel (g := g) (w := w) hz
    exact newVar_sound hT hW (cells_rel hr.shed hall).1 (own_of_shed (cellsD_shed _)) hn (e := ty) (by simp [execOp, ho, Instr.alloc, Go.newVar, newRow, hv])
  | true =>
  have hn : newVar C f o.dst t h (cellsZ z) = some (t', h') := hn
  unfold zeroD at hz
  split at hz
  · rename_i i hi
    cases hv : i.zero with
    | none => simp [hv] at hz
    | some v =>
      simp [hv] at hz
      subst hz
      obtain ⟨h1, h2⟩ := cellsZ_ok (P := P) (g := g) ty v
      exact newVar_sound hT hW h1 h2 hn (e := ty) (by simp [execOp, ho, Instr.alloc, Go.newVar, newRow, zeroValue, typeInfo, hi, hv])
  · cases hz
end
end Go.DS

/-
  Stores into variables and objects; loads that hand on the right to append.
-/
namespace Go.DS
set_option linter.unusedSectionVars false
variable [M : Mono]
open Go
set_option linter.unusedVariables false

section
variable {P : Program} {o : Oper} {a : Act} {g : Gh} {w : World} {h : DHeap} {d : Nat} {t : List DV} {x : DV}

theorem touch_setRow {b : Nat} (hp : ∀ o, g.pc b o = none) (cs : Array Value) : Touch b g g w (w.setRow b cs) where
  heap c hc hl := setRow_other w b c cs hc
  pcb o v hv := hv
  pcx c hc := rfl
  pcw o v hv := by rw [hp] at hv; cases hv
  kind c hc := rfl
  n := Nat.le_refl _
  η i hi := rfl
  sz i hi := rfl
  size := by simp
  os := rfl
  tape := rfl
  output := rfl
  drawn _ := Nat.le_refl _

/-- Cells with some set anew. -/
def putCells (cs : List DV) (off : Nat) (new : List DV) : List DV := cs.take off ++ new ++ cs.drop (off + new.length)

theorem putCells_get {cs new : List DV} {off k : Nat} {c : DV} (hl : off + new.length ≤ cs.length) (hc : (putCells cs off new)[k]? = some c) :
    (cs[k]? = some c ∧ (k < off ∨ off + new.length ≤ k)) ∨ ∃ j, k = off + j ∧ new[j]? = some c := by
  unfold putCells at hc
  rw [List.append_assoc, List.getElem?_append] at hc
  have h1 : (cs.take off).length = off := by simp; omega
  rw [h1] at hc
  split at hc
  · rename_i hk
    rw [List.getElem?_take, if_pos hk] at hc
    exact .inl ⟨hc, .inl hk⟩
  · rename_i hk
    rw [List.getElem?_append] at hc
    split at hc
    · exact .inr ⟨k - off, by omega, hc⟩
    · rename_i hk2
      rw [List.getElem?_drop] at hc
      rw [show off + new.length + (k - off - new.length) = k by omega] at hc
      exact .inl ⟨hc, .inr (by omega)⟩

theorem putVals_get {vs us : List Value} {off j : Nat} {v : Value} (hl : off + us.length ≤ vs.length) :
    (vs.take off ++ us ++ vs.drop (off + us.length))[off + j]? = if j < us.length then us[j]? else vs[off + j]? := by
  rw [List.append_assoc, List.getElem?_append]
  have h1 : (vs.take off).length = off := by simp; omega
  rw [h1, if_neg (by omega), List.getElem?_append, show off + j - off = j by omega]
  split
  · rfl
  · rw [List.getElem?_drop]; congr 1; omega

theorem held_store {b : Nat} {kb : Kind} {own : Nat → Kind} {cs new : List DV} {us : List Value} (hne : ∀ k, kb ≠ own k) (hh : Held g w b kb own cs) (hn : RelL g new us) {off : Nat} (hl : off + new.length ≤ cs.length)
    (hown : ∀ j e v, new[j]? = some e → us[j]? = some v → OwnAt g w (own (off + j)) e v) : ∃ vs et, w.heap[b]? = some (.cells vs et (0, 0)) ∧ off + us.length ≤ vs.size ∧
      Touch b g g w (w.setRow b (vs.toList.take off ++ us ++ vs.toList.drop (off + us.length)).toArray) ∧
      Held g (w.setRow b (vs.toList.take off ++ us ++ vs.toList.drop (off + us.length)).toArray) b kb own (putCells cs off new) := by
  obtain ⟨vs, et, h1, h2, h3, h4, h5⟩ := hh
  have hlen : cs.length = vs.size := by have := h4.len; simpa using this
  have hnl := hn.len
  have htouch := touch_setRow (w := w) h3 (vs.toList.take off ++ us ++ vs.toList.drop (off + us.length)).toArray
  have hO : ∀ k e v, OwnAt g w (own k) e v → OwnAt g (w.setRow b (vs.toList.take off ++ us ++ vs.toList.drop (off + us.length)).toArray) (own k) e v :=
    fun k e v ho => htouch.own (.inr (by rw [h2]; exact hne k)) ho
  refine ⟨vs, et, h1, by omega, htouch, _, et, setRow_heap w b vs _ et (0, 0) h1, h2, h3, ?_, ?_⟩
  · simp only [putCells, hnl]
    exact ((h4.take off).append hn).append (h4.drop _)
  · intro k e v he hv
    have hul : off + us.length ≤ vs.toList.length := by simp; omega
    have hv' : (vs.toList.take off ++ us ++ vs.toList.drop (off + us.length))[k]? = some v := by simpa using hv
    rcases putCells_get hl he with ⟨he', hk⟩ | ⟨j, rfl, he'⟩
    · have : vs.toList[k]? = some v := by
        rcases hk with hk | hk
        · rw [List.append_assoc, List.getElem?_append_left (by simp; omega), List.getElem?_take, if_pos hk] at hv'; exact hv'
        · obtain ⟨j, rfl⟩ : ∃ j, k = off + j := ⟨k - off, by omega⟩
          rw [putVals_get (v := v) hul, if_neg (by omega)] at hv'; exact hv'
      exact hO k e v (h5 k e v he' (by simpa using this))
    · have hj : j < new.length := (List.getElem?_eq_some_iff.1 he').1
      rw [putVals_get (v := v) hul, if_pos (by omega)] at hv'
      exact hO _ e v (hown j e v he' hv')

/-- A variable's cells are set. -/
theorem relT_setBox {g' : Gh} {w' : World} {tmps : Array Value} {s : Nat} {cs cs' : List DV} {b : Nat} (hT : ∀ i y v, t[i]? = some y → tmps[i]? = some v → i ≠ s → RelS g' w' d t tmps i y v) (hlen : t.length = tmps.size) (hs : t[s]? = some (.box cs))
    (hv : tmps[s]? = some (.pointer (some ⟨b, 0, none⟩))) (hh : Held g' w' b (.box d s) (fun k => .ownCell d s k) cs') : RelT g' w' d (t.set s (.box cs')) tmps where
  len := by simp [hlen]
  at_ i y v hy hv' := by
    by_cases e : s = i
    · subst e
      rw [List.getElem?_set_self (List.getElem?_eq_some_iff.1 hs).1] at hy
      cases hy
      rw [hv] at hv'; cases hv'
      exact ⟨b, rfl, hh⟩
    · rw [List.getElem?_set_ne e] at hy
      have hr := hT i y v hy hv' (Ne.symm e)
      by_cases hp : y.plain = true
      · rw [RelS.plain_iff hp] at *; exact hr
      · cases y <;> simp [DV.plain, DV.isBox, DV.isPath] at hp
        · exact hr
        · rename_i s₁ off
          intro cs₁ hcs
          by_cases e₁ : s = s₁
          · subst e₁; exact hr cs hs
          · rw [List.getElem?_set_ne e₁] at hcs; exact hr cs₁ hcs

theorem row_store {b m : Nat} {kb : Kind} {cs new : List DV} {us : List Value} (hh : HeldRow g w b kb m cs) (hn : RelL g new us) (hone : ∀ v ∈ us, v.oneCell' = true) {off : Nat} (hl : off + new.length ≤ cs.length) : ∃ vs et, w.heap[b]? = some (.cells vs et (0, 0)) ∧ off + us.length ≤ vs.size ∧
      Touch b g g w (w.setRow b (vs.toList.take off ++ us ++ vs.toList.drop (off + us.length)).toArray) ∧
      HeldRow g (w.setRow b (vs.toList.take off ++ us ++ vs.toList.drop (off + us.length)).toArray) b kb m (putCells cs off (new.map DV.shed)) := by
  obtain ⟨vs, et, h1, h2, h3, h4, h5, h6⟩ := hh
  have hlen : cs.length ≤ vs.size := by have := h4.len; simp at this; omega
  obtain ⟨h6, h7⟩ := h6
  have hnl := hn.len
  have htouch := touch_setRow (w := w) h3 (vs.toList.take off ++ us ++ vs.toList.drop (off + us.length)).toArray
  have e1 : (cs.take off ++ new.map DV.shed ++ cs.drop (off + us.length)).length = cs.length := by simp; omega
  have e2 : (vs.toList.take off ++ us ++ vs.toList.drop (off + us.length)).take cs.length = (vs.toList.take cs.length).take off ++ us ++ (vs.toList.take cs.length).drop (off + us.length) := by
    apply List.ext_getElem?
    intro k
    have hul : off + us.length ≤ vs.toList.length := by simp; omega
    have hul2 : off + us.length ≤ (vs.toList.take cs.length).length := by simp; omega
    rw [List.getElem?_take]
    by_cases hk : k < off
    · rw [List.append_assoc, List.getElem?_append_left (by simp; omega), List.append_assoc, List.getElem?_append_left (by simp; omega)]
      simp only [List.getElem?_take]
      rw [if_pos (by omega), if_pos hk, if_pos hk, if_pos (by omega)]
    · obtain ⟨j, rfl⟩ : ∃ j, k = off + j := ⟨k - off, by omega⟩
      have p1 := putVals_get (vs := vs.toList) (us := us) (off := off) (j := j) (v := .bool true) hul
      have p2 := putVals_get (vs := vs.toList.take cs.length) (us := us) (off := off) (j := j) (v := .bool true) hul2
      rw [p1, p2]
      by_cases hj : j < us.length
      · rw [if_pos hj, if_pos hj, if_pos (by omega)]
      · rw [if_neg hj, if_neg hj, List.getElem?_take]
  refine ⟨vs, et, h1, by omega, htouch, _, et, setRow_heap w b vs _ et (0, 0) h1, h2, h3, ?_, ?_, by simp; omega, ?_⟩
  · simp only [putCells, List.length_map, hnl]
    have h8 := ((h4.take off).append (hn.map_drop DV.shed (fun _ _ => RelV.shed))).append (h4.drop (off + us.length))
    rw [e1, e2]
    exact h8
  · intro c hc
    simp only [putCells, List.mem_append, List.mem_map] at hc
    rcases hc with (hc | ⟨x, _, rfl⟩) | hc
    · exact h5 c (List.mem_of_mem_take hc)
    · exact DV.shed_shed x
    · exact h5 c (List.mem_of_mem_drop hc)
  · simp only [putCells, List.length_map, hnl]
    rw [e1, e2]
    intro v hv
    rcases List.mem_append.1 hv with hv | hv
    · rcases List.mem_append.1 hv with hv | hv
      · exact h7 v (List.mem_of_mem_take hv)
      · exact hone v hv
    · exact h7 v (List.mem_of_mem_drop hv)

/-- An object's cells are set. -/
theorem winv_setObj {g' : Gh} {w' : World} (hn : h.length = g'.n) (hpc : ∀ b o v, g'.pc b o = some v → w'.cell? ⟨b, o, none⟩ = some v) {i : Nat} {ob : DObj} (ho : RelO g' w' i ob)
    (hO : ∀ j o, h[j]? = some o → j ≠ i → RelO g' w' j o) : WInv g' (h.set i ob) w' where
  n := by simp [hn]
  pc := hpc
  obj j o' hj := by
    by_cases e : i = j
    · subst e
      have hi : i < h.length := by have := (List.getElem?_eq_some_iff.1 hj).1; simpa using this
      rw [List.getElem?_set_self hi] at hj
      cases hj; exact ho
    · rw [List.getElem?_set_ne e] at hj
      exact hO j o' hj (Ne.symm e)

theorem run_storeVar {b off : Nat} {ty : TypeId} {q : Bool} {n : Nat} {v : Value} {vs : Array Value} {et : TypeId} (hi : tinfo P ty = some (q, n)) (hn : v.cells.size = n) (hh : w.heap[b]? = some (.cells vs et (0, 0)))
    (hl : off + v.cells.toList.length ≤ vs.size) (h1 : ∀ u ∈ v.cells.toList, u.oneCell' = true) :
    (storeVar ty ⟨b, off, none⟩ v).run P w = .ok () (w.setRow b (vs.toList.take off ++ v.cells.toList ++ vs.toList.drop (off + v.cells.toList.length)).toArray) := by
  obtain ⟨i, u, e1, e2, e3, e4⟩ := tinfo_spec hi
  have := run_storeCells_at (P := P) b off et v.cells.toList 0 vs w hh (by omega) h1
  simp only [Nat.add_zero] at this
  simp [storeVar, sizeOf, typeInfo, e1, e2, hn]
  simpa [hn] using this

/-- A store at a place. -/
theorem store_rel (hT : RelT g w d t a.tmps) (hW : WInv g h w) {p : DV} {pv : Value} (hp : RelP g t a.tmps p pv) {new : List DV} {us : List Value} (hn : RelL g new us) {t' : List DV} {h' : DHeap} (hs : storeD t h p new = some (t', h'))
    (hown : ∀ j e v, new[j]? = some e → us[j]? = some v → (∀ s off, p = .path s off → OwnAt g w (.ownCell d s (off + j)) e v) ∧ ∀ i off, p = .ptr i off → OwnAt g w (.ownObj i (off + j)) e v) :
    ∃ b off vs et, pv = .pointer (some ⟨b, off, none⟩) ∧ w.heap[b]? = some (.cells vs et (0, 0)) ∧ off + us.length ≤ vs.size ∧
      Ext d g g w (w.setRow b (vs.toList.take off ++ us ++ vs.toList.drop (off + us.length)).toArray) ∧ WInv g h' (w.setRow b (vs.toList.take off ++ us ++ vs.toList.drop (off + us.length)).toArray) ∧
      RelT g (w.setRow b (vs.toList.take off ++ us ++ vs.toList.drop (off + us.length)).toArray) d t' a.tmps := by
  unfold storeD at hs
  split at hs
  · cases p <;> simp only at hs <;> try (cases hs)
    · rename_i i off
      split at hs
      · rename_i cs hcs
        split at hs
        · rename_i hl
          cases hs
          cases hp with
          | ptr hi =>
          have hro := hW.obj i _ hcs
          have hkind : g.kind (g.η i) = .obj i := by obtain ⟨_, _, _, h2, _⟩ := hro; exact h2
          obtain ⟨vs, et, h1, h2, htouch, hheld⟩ := held_store (own := fun k => .ownObj i k) (fun k => by simp) hro hn hl (fun j e v he hv => (hown j e v he hv).2 i off rfl)
          refine ⟨g.η i, off, vs, et, rfl, h1, h2, htouch.ext (.inr (by rw [hkind]; simp [Keep])), ?_, htouch.relT (.inr ⟨fun s => by rw [hkind]; simp, fun s => by rw [hkind]; simp, fun s k => by rw [hkind]; simp⟩) hT⟩
          refine winv_setObj hW.n (htouch.pc hW.pc) hheld (fun j o' hj hne => ?_)
          exact htouch.relO (hW.n ▸ (List.getElem?_eq_some_iff.1 hj).1) (.inr ⟨by rw [hkind]; simp; exact Ne.symm hne, fun k => by rw [hkind]; simp⟩) (hW.obj j o' hj)
        · cases hs
      · cases hs
    · rename_i s off
      split at hs
      · rename_i cs hcs
        split at hs
        · rename_i hl
          cases hs
          obtain ⟨b, rfl, hb⟩ := hp cs hcs
          obtain ⟨u, hu, hr⟩ := hT.get hcs
          obtain ⟨b', rfl, hh⟩ := hr
          rw [hu] at hb; cases hb
          have hkind : g.kind b = .box d s := by obtain ⟨_, _, _, h2, _⟩ := hh; exact h2
          obtain ⟨vs, et, h1, h2, htouch, hheld⟩ := held_store (own := fun k => .ownCell d s k) (fun k => by simp) hh hn hl (fun j e v he hv => (hown j e v he hv).1 s off rfl)
          refine ⟨b, off, vs, et, rfl, h1, h2, htouch.ext (.inr (by rw [hkind]; simp [Keep])), htouch.winv rfl (.inr ⟨fun i => by rw [hkind]; simp, fun i k => by rw [hkind]; simp⟩) hW, ?_⟩
          refine relT_setBox (fun i y v hy hv hne => ?_) hT.len hcs hu hheld
          exact htouch.relS (.inr ⟨by rw [hkind]; simp; exact Ne.symm hne, by rw [hkind]; simp, fun k => by rw [hkind]; simp⟩) (hT.at_ i y v hy hv)
        · cases hs
      · cases hs
    · rename_i i off
      split at hs
      · rename_i cs hcs
        split at hs
        · rename_i hl
          cases hs
          cases hp with
          | rptr hi =>
          have hro := hW.obj i _ hcs
          have hkind : g.kind (g.η i) = .obj i := by obtain ⟨_, _, _, h2, _⟩ := hro; exact h2
          obtain ⟨vs, et, h1, h2, htouch, hheld⟩ := row_store hro hn (relL_one hn (by assumption)) hl
          refine ⟨g.η i, off, vs, et, rfl, h1, h2, htouch.ext (.inr (by rw [hkind]; simp [Keep])), ?_, htouch.relT (.inr ⟨fun s => by rw [hkind]; simp, fun s => by rw [hkind]; simp, fun s k => by rw [hkind]; simp⟩) hT⟩
          have hheld' : RelO g (w.setRow (g.η i) (vs.toList.take off ++ us ++ vs.toList.drop (off + us.length)).toArray) i (.row (cs.take off ++ new.map DV.shed ++ cs.drop (off + new.length))) := by
            have := hheld
            simp only [putCells, List.length_map] at this
            exact this
          refine winv_setObj hW.n (htouch.pc hW.pc) hheld' (fun j o' hj hne => ?_)
          exact htouch.relO (hW.n ▸ (List.getElem?_eq_some_iff.1 hj).1) (.inr ⟨by rw [hkind]; simp; exact Ne.symm hne, fun k => by rw [hkind]; simp⟩) (hW.obj j o' hj)
        · cases hs
      · cases hs
  · cases hs

theorem cells_single {y : DV} (hy : ∀ cs, y ≠ .agg cs) : cellsD y = [y] := by
  cases y <;> first | rfl | exact (hy _ rfl).elim

theorem step_store (hT : RelT g w d t a.tmps) (hW : WInv g h w) {ty : TypeId} {ad z : Operand} (ho : o.op = .store ty ad z) {y : DV} {t' : List DV} (hy : takeD P ty t z = (y, t')) {q : Bool} {n : Nat}
    (hi : tinfo P ty = some (q, n)) (hn : (cellsD y).length = n) {t'' : List DV} {h' : DHeap} (hs : storeD t' h (opnd P o.type t ad) (cellsD y) = some (t'', h')) : StepOut P o a g w d (putD t'' o.dst .junk) h' := by
  have hall : (cellsD y).all DV.cell = true := by
    unfold storeD at hs
    split at hs
    · assumption
    · cases hs
  have hpl := all_plain_of_cell hall
  -- who owns what is stored
  let pl : Kind := match opnd P o.type t ad with | .path s off => .ownCell d s off | .ptr i off => .ownObj i off | _ => .data
  obtain ⟨g', e1, e2, e3, he, hW', hT', hp, hown, _⟩ := take_rel hT hW hy pl
  rw [RelP.of_plain hpl] at hp
  obtain ⟨hc, hone⟩ := cells_rel hp hall
  have hle : Gh.Le g g' := he.le
  have had := ((opnd_rel (P := P) hT o.type ad).mono hle).box_iff (takeD_box hy)
  have hst := store_rel hT' hW' had hc hs (fun j e v hj hv => by
    by_cases hag : ∃ cs, y = .agg cs
    · obtain ⟨cs, rfl⟩ := hag
      have hsh : e.shed = e := by
        simp only [cellsD] at hj
        rw [List.getElem?_map] at hj
        cases hk : cs[j]? with
        | none => rw [hk] at hj; cases hj
        | some c => rw [hk] at hj; cases hj; exact shed_shed c
      exact ⟨fun _ _ _ => ownAt_of_shed hsh, fun _ _ _ => ownAt_of_shed hsh⟩
    · have hcs := cells_single (y := y) (fun cs e => hag ⟨cs, e⟩)
      rw [hcs] at hj hall
      have h1 : (a.eval z).cells = #[a.eval z] := by
        have := hone
        rw [show (cellsD y) = [y] from hcs] at hc
        cases hz : a.eval z <;> first | rfl | skip
        all_goals
          rw [hz] at hp
          cases hp <;> simp [DV.cell] at hall
          all_goals simp [Value.oneCell'] at hall
      rw [h1] at hv
      cases j with
      | zero =>
        simp at hj hv
        subst hj; subst hv
        refine ⟨fun s off hq => ?_, fun i off hq => ?_⟩
        · simp only [pl, hq] at hown; exact hown
        · simp only [pl, hq] at hown; exact hown
      | succ j => simp at hj)
  obtain ⟨b, off, vs, et, hv, h1, h2, h3, h4, h5⟩ := hst
  have hn' : (a.eval z).cells.size = n := by rw [← hn, hc.len]; simp
  refine ⟨g', _, undef, .inr ⟨?_, rfl⟩, he.trans h3, h4, h5.put_junk⟩
  have := run_storeVar (P := P) (v := a.eval z) hi hn' h1 h2 hone
  simp only [execOp, ho, Instr.storeAt, Instr.sureAddr, hv, Sem.run_bind, Sem.run_pure, Result.andThen_ok, this]

theorem step_loadR (hT : RelT g w d t a.tmps) (hW : WInv g h w) {r : Bool} {ty : TypeId} {ad : Operand} (ho : o.op = .load ty ad) {cs : List DV} (hc : cellsAt t h (opnd P o.type t ad) = some cs)
    (hx : ofCellsR P r ty cs = some x) : StepOut P o a g w d (putD t o.dst x) h := by
  obtain ⟨b, off, vs, hv, hr, hin⟩ := cellsAt_rel hT hW (opnd_rel (P := P) hT o.type ad) hc
  obtain ⟨v, hv1, hv2, hv3⟩ := ofCellsR_rel (w := w) hx hr hin
  refine CalmOut.step hT ⟨g, w, v, ?_, .refl _ _ _, hW, hv2.relP, fun p => hv3 w p⟩
  simp [execOp, ho, hv, Instr.loadAt, Instr.sureAddr, hv1]

theorem step_load (hT : RelT g w d t a.tmps) (hW : WInv g h w) {ty : TypeId} {ad : Operand} (ho : o.op = .load ty ad) {cs : List DV} (hc : cellsAt t h (opnd P o.type t ad) = some cs)
    (hx : ofCells P ty cs = some x) : StepOut P o a g w d (putD t o.dst x) h := (calm_load hT hW ho hc hx).step hT

/-- The right to append is taken out of a cell. -/
theorem held_take {b : Nat} {kb : Kind} {own : Nat → Kind} {cs : List DV} (hinj : ∀ k k', own k = own k' → k = k') (hne : ∀ k, kb ≠ own k) (hpcw : ∀ b o v, g.pc b o = some v → w.cell? ⟨b, o, none⟩ = some v)
    (hh : Held g w b kb own cs) {off es : Nat} {l : List (List DV)} (hc : cs[off]? = some (.list true es l)) (p : Kind) :
    ∃ v, w.cell? ⟨b, off, none⟩ = some v ∧ RelV g (.list true es l) v ∧ ∃ g', (g' = g ∨ ∃ b', g' = g.rekind b' p ∧ g.kind b' = own off) ∧ Held g' w b kb own (cs.set off (.list false es l)) ∧ OwnAt g' w p (.list true es l) v := by
  obtain ⟨vs, et, h1, h2, h3, h4, h5⟩ := hh
  obtain ⟨v, hv, hr⟩ := h4.get hc
  have hcell : w.cell? ⟨b, off, none⟩ = some v := by simp only [World.cell?, h1]; simpa using hv
  refine ⟨v, hcell, hr, ?_⟩
  obtain ⟨ad, cap, rfl, hle⟩ := list_cap hr
  have hvs : ∀ {g'}, Gh.Le g g' → RelL g' (cs.set off (.list false es l)) vs.toList := fun {g'} hg => by
    have := (h4.mono hg).set off (hr.shed.mono hg)
    have e : vs.toList.set off (.slice ad l.length cap) = vs.toList := List.ext_getElem? fun k => by
      rw [List.getElem?_set]
      split
      · rename_i hk; subst hk
        split
        · exact hv.symm
        · rename_i hl; rw [List.getElem?_eq_none (by omega)]
      · rfl
    rw [e] at this
    exact this
  by_cases hlt : l.length < cap
  · have h5' : OwnAt g w (own off) (.list true es l) (.slice ad l.length cap) := h5 off _ _ hc (by simpa using hv)
    obtain ⟨b', off', c, et', ha, hk, hhp, hsz, hpc⟩ := h5'.list hlt
    have htouch := touch_rekind hpcw b' p
    have hbb : b ≠ b' := fun e => by subst e; exact hne off (h2.symm.trans hk)
    refine ⟨g.rekind b' p, .inr ⟨b', rfl, hk⟩, ⟨vs, et, h1, (htouch.kind b hbb).trans h2, h3, hvs htouch.le, fun k e u he hu => ?_⟩, .mk_list fun _ => ⟨b', off', c, et', ha, by simp [Gh.rekind], hhp, hsz, hpc⟩⟩
    rw [List.getElem?_set] at he
    split at he
    · split at he
      · cases he; exact .none rfl
      · cases he
    · rename_i hkne
      exact htouch.own (.inr (by rw [hk]; intro e'; exact hkne (hinj _ _ e'))) (h5 k e u he hu)
  · refine ⟨g, .inl rfl, ⟨vs, et, h1, h2, h3, hvs (.refl g), fun k e u he hu => ?_⟩, .mk_list fun h => (hlt h).elim⟩
    rw [List.getElem?_set] at he
    split at he
    · split at he
      · cases he; exact .none rfl
      · cases he
    · exact h5 k e u he hu

theorem putCells_one {cs : List DV} {off : Nat} {y : DV} (hl : off < cs.length) : putCells cs off [y] = cs.set off y := by
  unfold putCells
  rw [List.set_eq_take_append_cons_drop, if_pos hl]
  simp

theorem step_load_take (hT : RelT g w d t a.tmps) (hW : WInv g h w) {ty : TypeId} {ad : Operand} (ho : o.op = .load ty ad) {s0 : Tmp} (hd : o.dst = some s0) {es n : Nat} {l : List (List DV)} {cs : List DV}
    (hc : cellsAt t h (opnd P o.type t ad) = some (.list true es l :: cs)) (hi : tinfo P ty = some (false, n)) {t' : List DV} {h' : DHeap} (hs : storeD t h (opnd P o.type t ad) [.list false es l] = some (t', h')) :
    StepOut P o a g w d (putD t' o.dst (.list true es l)) h' := by
  have hp := opnd_rel (P := P) hT o.type ad
  have hrun : ∀ b off v, a.eval ad = .pointer (some ⟨b, off, none⟩) → w.cell? ⟨b, off, none⟩ = some v → (execOp a.eval o).run P w = .ok (.value v) w := fun b off v h1 h2 => by
    simp [execOp, ho, h1, Instr.loadAt, Instr.sureAddr, run_loadVar_one hi h2]
  generalize opnd P o.type t ad = p at hc hs hp
  unfold storeD at hs
  split at hs
  · cases p <;> simp only at hs <;> try (cases hs)
    · rename_i i off
      split at hs
      · rename_i cs' hcs
        split at hs
        · rename_i hl
          cases hs
          simp only [cellsAt, hcs] at hc
          have hoff : cs'[off]? = some (.list true es l) := by
            have : (cs'.drop off)[0]? = some (.list true es l) := by rw [Option.some.inj hc]; rfl
            rw [List.getElem?_drop] at this; simpa using this
          generalize hpv : a.eval ad = pv at hp
          cases hp with
          | ptr hin =>
          have hro := hW.obj i _ hcs
          obtain ⟨v, hcell, hrel, g', hk, hheld, hown⟩ := held_take (own := fun k => .ownObj i k) (fun k k' e => by cases e; rfl) (fun k => by simp) hW.pc hro hoff (.ownSlot d s0)
          rw [← putCells_one (List.getElem?_eq_some_iff.1 hoff).1] at hheld
          have hr := hrun _ _ v hpv hcell
          have main : ∀ g' : Gh, g'.n = g.n → g'.η i = g.η i → Gh.Le g g' → Ext d g g' w w → (∀ b o v, g'.pc b o = some v → w.cell? ⟨b, o, none⟩ = some v) → RelT g' w d t a.tmps →
              (∀ j o, h[j]? = some o → j ≠ i → RelO g' w j o) → Held g' w (g.η i) (.obj i) (fun k => .ownObj i k) (putCells cs' off [.list false es l]) → OwnAt g' w (.ownSlot d s0) (.list true es l) v →
              StepOut P o a g w d (putD t o.dst (.list true es l)) (h.set i (.cells (putCells cs' off [.list false es l]))) := by
            intro g' hn hη hle hext hpc hT' hO hheld hown
            refine ⟨g', w, v, .inl hr, hext, winv_setObj (hW.n.trans hn.symm) hpc (by simp only [RelO, hη]; exact hheld) hO, hT'.put (hrel.mono hle).relP (fun s hs => ?_)⟩
            rw [hd] at hs; cases hs; exact hown
          rcases hk with rfl | ⟨b', rfl, hkb⟩
          · exact main g' rfl rfl (.refl _) (.refl _ _ _) hW.pc hT (fun j o' hj _ => hW.obj j o' hj) hheld hown
          · have htouch := touch_rekind hW.pc b' (.ownSlot d s0)
            refine main (g.rekind b' (.ownSlot d s0)) rfl rfl htouch.le (htouch.ext (.inr (by rw [hkb]; simp [Keep]))) (htouch.pc hW.pc) (htouch.relT (.inr ⟨fun s => by rw [hkb]; simp, fun s => by rw [hkb]; simp, fun s k => by rw [hkb]; simp⟩) hT) ?_ hheld hown
            intro j o' hj hne
            exact htouch.relO (hW.n ▸ (List.getElem?_eq_some_iff.1 hj).1) (.inr ⟨by rw [hkb]; simp, fun k => by rw [hkb]; simp; intro e; exact (hne e.symm).elim⟩) (hW.obj j o' hj)
        · cases hs
      · cases hs
    · rename_i s off
      split at hs
      · rename_i cs' hcs
        split at hs
        · rename_i hl
          cases hs
          simp only [cellsAt, hcs] at hc
          have hoff : cs'[off]? = some (.list true es l) := by
            have : (cs'.drop off)[0]? = some (.list true es l) := by rw [Option.some.inj hc]; rfl
            rw [List.getElem?_drop] at this; simpa using this
          obtain ⟨b, hpv, hb⟩ := hp cs' hcs
          obtain ⟨u, hu, hr⟩ := hT.get hcs
          obtain ⟨b₂, rfl, hh⟩ := hr
          rw [hu] at hb; cases hb
          obtain ⟨v, hcell, hrel, g', hk, hheld, hown⟩ := held_take (own := fun k => .ownCell d s k) (fun k k' e => by cases e; rfl) (fun k => by simp) hW.pc hh hoff (.ownSlot d s0)
          rw [← putCells_one (List.getElem?_eq_some_iff.1 hoff).1] at hheld
          have hr := hrun _ _ v hpv hcell
          have main : ∀ g' : Gh, Gh.Le g g' → Ext d g g' w w → WInv g' h w → (∀ i y v, t[i]? = some y → a.tmps[i]? = some v → i ≠ s → RelS g' w d t a.tmps i y v) →
              Held g' w b (.box d s) (fun k => .ownCell d s k) (putCells cs' off [.list false es l]) → OwnAt g' w (.ownSlot d s0) (.list true es l) v →
              StepOut P o a g w d (putD (t.set s (.box (putCells cs' off [.list false es l]))) o.dst (.list true es l)) h := by
            intro g' hle hext hW' hS hheld hown
            have hT' := relT_setBox hS hT.len hcs hu hheld
            refine ⟨g', w, v, .inl hr, hext, hW', hT'.put (hrel.mono hle).relP (fun s hs => ?_)⟩
            rw [hd] at hs; cases hs; exact hown
          rcases hk with rfl | ⟨b', rfl, hkb⟩
          · exact main g' (.refl _) (.refl _ _ _) hW (fun i y v hy hv _ => hT.at_ i y v hy hv) hheld hown
          · have htouch := touch_rekind hW.pc b' (.ownSlot d s0)
            refine main (g.rekind b' (.ownSlot d s0)) htouch.le (htouch.ext (.inr (by rw [hkb]; simp [Keep]))) (htouch.winv rfl (.inr ⟨fun i => by rw [hkb]; simp, fun i k => by rw [hkb]; simp⟩) hW) ?_ hheld hown
            intro i y v hy hv hne
            exact htouch.relS (.inr ⟨by rw [hkb]; simp, by rw [hkb]; simp, fun k => by rw [hkb]; simp; intro e; exact (hne e.symm).elim⟩) (hT.at_ i y v hy hv)
        · cases hs
      · cases hs
    · rename_i i off
      split at hs
      · rename_i cs' hcs
        exfalso
        simp only [cellsAt, hcs] at hc
        have hoff : cs'[off]? = some (.list true es l) := by
          have : (cs'.drop off)[0]? = some (.list true es l) := by rw [Option.some.inj hc]; rfl
          rw [List.getElem?_drop] at this; simpa using this
        obtain ⟨_, _, _, _, _, _, h5, _⟩ := hW.obj i _ hcs
        have := h5 _ (List.mem_of_getElem? hoff)
        simp [DV.shed] at this
      · cases hs
  · cases hs
end
end Go.DS

/-
  append.
-/
namespace Go.DS
set_option linter.unusedSectionVars false
variable [M : Mono]
open Go
set_option linter.unusedVariables false

section
variable {P : Program} {o : Oper} {a : Act} {g : Gh} {w : World} {h : DHeap} {d : Nat} {t : List DV} {x : DV}

theorem cellsIn_drew {b off : Nat} {vs : List Value} (h : CellsIn w b off vs) : CellsIn w.drew b off vs := h

theorem cellsIn_pc (hpc : ∀ b o v, g.pc b o = some v → w.cell? ⟨b, o, none⟩ = some v) {b off : Nat} {vs : List Value} (h : ∀ (k : Nat) (v : Value), vs[k]? = some v → g.pc b (off + k) = some v) : CellsIn w b off vs :=
  fun k v hv => hpc _ _ _ (h k v hv)

theorem flatten_len {α : Type} {es : Nat} : ∀ {l : List (List α)}, (∀ x ∈ l, x.length = es) → l.flatten.length = l.length * es
  | [], _ => by simp
  | x :: l, h => by
    rw [List.flatten_cons, List.length_append, h x (List.mem_cons_self ..), flatten_len (fun y hy => h y (List.mem_cons_of_mem _ hy)), List.length_cons, Nat.succ_mul, Nat.add_comm]

/-- Cells that last hold in a world. -/
def PcIn (g : Gh) (w : World) : Prop := ∀ b o v, g.pc b o = some v → w.cell? ⟨b, o, none⟩ = some v

/-- The cells that append reads of a slice. -/
theorem firstCells_list {own : Bool} {es : Nat} {m : List (List DV)} {v : Value} (hr : RelV g (.list own es m) v) :
    (∀ r ∈ m, r.length = es) ∧ ∃ vs, RelL g m.flatten vs ∧ vs.length = m.length * es ∧ (∀ c ∈ vs, c.oneCell' = true) ∧ ∀ w, (Builtin.lenOf v).run P w = .ok m.length w ∧ (PcIn g w → (Builtin.firstCells es m.length v).run P w = .ok vs.toArray w) := by
  cases hr with
  | empty =>
    rename_i ad cap
    refine ⟨by simp, [], RelL.nil g, by simp, by simp, fun w => ⟨rfl, fun _ => ?_⟩⟩
    cases ad with
    | none => rfl
    | some b => simp [Builtin.firstCells, loadCells, loadCellsFrom]
  | list h1 h2 h3 h4 h5 =>
    rename_i cap b off vs
    have hl : vs.length = m.length * es := by rw [← h3, flatten_len h2]
    refine ⟨h2, vs, ⟨h3, h4⟩, hl, fun c hc => by
      obtain ⟨k, hk, rfl⟩ := List.getElem_of_mem hc
      exact g.one _ _ _ (h5 k _ (List.getElem?_eq_getElem hk)), fun w => ⟨rfl, fun hpc => ?_⟩⟩
    have := run_loadCells_list (P := P) w ⟨b, off, none⟩ vs (fun j u hu => by rw [add_spot]; exact cellsIn_pc hpc h5 j u hu)
    rw [hl] at this
    exact this

theorem chunk_len (es : Nat) : ∀ (n : Nat) (cs : List DV), n * es ≤ cs.length → ∀ r ∈ chunk es n cs, r.length = es
  | 0, cs, h, r, hr => by simp [chunk] at hr
  | n + 1, cs, h, r, hr => by
    rw [Nat.succ_mul] at h
    simp only [chunk, List.mem_cons] at hr
    rcases hr with rfl | hr
    · simp; omega
    · exact chunk_len es n (cs.drop es) (by simp; omega) r hr
theorem chunk_count (es : Nat) : ∀ (n : Nat) (cs : List DV), (chunk es n cs).length = n
  | 0, cs => rfl
  | n + 1, cs => by simp [chunk, chunk_count es n]
theorem chunk_flat (es : Nat) : ∀ (n : Nat) (cs : List DV), (chunk es n cs).flatten = cs.take (n * es)
  | 0, cs => by simp [chunk]
  | n + 1, cs => by
    simp only [chunk, List.flatten_cons, chunk_flat es n, Nat.succ_mul]
    rw [Nat.add_comm, List.take_add]

theorem rows_rel (hW : WInv g h w) {e : TypeId} {y : DV} {v : Value} {m : List (List DV)} (hr : RelP g t a.tmps y v) (hm : rowsD P e h y = some m) :
    (∀ r ∈ m, r.length = sz P e) ∧ ∃ vs, RelL g m.flatten vs ∧ vs.length = m.length * sz P e ∧ (∀ c ∈ vs, c.oneCell' = true) ∧ ∀ w', w'.heap = w.heap → (Builtin.lenOf v).run P w' = .ok m.length w' ∧ (Builtin.firstCells (sz P e) m.length v).run P w' = .ok vs.toArray w' := by
  have hpcw : ∀ w', w'.heap = w.heap → PcIn g w' := fun w' hw' b o v hv => by
    have := hW.pc b o v hv
    rwa [cell_of_heap (w := w) (by rw [hw'])]
  unfold rowsD at hm
  split at hm
  · rename_i own es l
    split at hm
    · rename_i hes
      cases hm
      have hr' : RelV g (.list own es m) v := hr
      have := firstCells_list (P := P) hr'
      rw [hes] at this
      obtain ⟨h1, vs, h2, h3, h4, h5⟩ := this
      exact ⟨h1, vs, h2, h3, h4, fun w' hw' => ⟨(h5 w').1, (h5 w').2 (hpcw w' hw')⟩⟩
    · cases hm
  · rename_i s
    split at hm
    · rename_i hes
      cases hm
      have hv : v = .string s := by cases hr; rfl
      subst hv
      have hlen : (bytesD s).length = s.size := by simp [bytesD]
      have hfl : (bytesD s).flatten = s.data.toList.map fun b => DV.sc (.int .u8 b.toNat) := by
        simp only [bytesD]
        generalize s.data.toList = l
        induction l with
        | nil => rfl
        | cons b l ih => simp [ih]
      have hex : s.extract 0 s.size = s := by
        apply ByteArray.ext
        simp
      refine ⟨fun r hr => ?_, s.data.toList.map fun b => .int .u8 b.toNat, ?_, ?_, fun c hc => by
        rw [List.mem_map] at hc; obtain ⟨b, _, rfl⟩ := hc; rfl, fun w' hw' => ⟨by simp [Builtin.lenOf, hlen], ?_⟩⟩
      · simp only [bytesD, List.mem_map] at hr
        obtain ⟨b, _, rfl⟩ := hr
        rw [hes]; rfl
      · rw [hfl]
        refine ⟨by simp, fun k e u he hu => ?_⟩
        rw [List.getElem?_map] at he hu
        cases hk : s.data.toList[k]? with
        | none => rw [hk] at he; cases he
        | some b => rw [hk] at he hu; cases he; cases hu; exact .sc _
      · rw [hes]; simp [hlen]
      · simp only [hlen, Builtin.firstCells, hex, Sem.run_pure]
        congr 1
        apply Array.ext'; simp
    · cases hm
  · cases hm
    have hv : v = .slice none 0 0 := by cases hr; rfl
    subst hv
    exact ⟨by simp, [], RelL.nil g, by simp, by simp, fun w' hw' => ⟨rfl, rfl⟩⟩
  · rename_i j es off n
    split at hm
    · rename_i cs hcs
      split at hm
      · rename_i hc
        cases hm
        obtain ⟨hes, hlen⟩ := hc
        rw [← hes]
        have hr' : RelV g (.vec j es off n) v := hr
        have hdl : n * es ≤ (cs.drop (off * es)).length := by
          rw [Nat.add_mul] at hlen; simp; omega
        rw [chunk_count, chunk_flat]
        refine ⟨chunk_len es n _ hdl, ?_⟩
        cases hr' with
        | vec0 =>
          refine ⟨[], by rw [Nat.zero_mul, List.take_zero]; exact RelL.nil g, by simp, by simp, fun w' hw' => ⟨rfl, ?_⟩⟩
          rename_i ad
          cases ad with
          | none => rfl
          | some b => simp [Builtin.firstCells, loadCells, loadCellsFrom]
        | vec hj hc hb =>
          obtain ⟨vs, et, h1, h2, h3, h4, h5, h6, h7⟩ := hW.obj j _ hcs
          have hrel := (h4.drop (off * es)).take (n * es)
          have hcl : cs.length ≤ vs.size := by have := h4.len; simp at this; omega
          have hvl : (((vs.toList.take cs.length).drop (off * es)).take (n * es)).length = n * es := by
            have := hrel.len
            simp only [List.length_take] at this ⊢
            simp only [List.length_drop, List.length_take] at this ⊢
            simp at this hdl ⊢
            omega
          refine ⟨_, hrel, hvl, fun c hc => h7 c (List.mem_of_mem_drop (List.mem_of_mem_take hc)), fun w' hw' => ⟨rfl, ?_⟩⟩
          have hh : w'.heap[g.η j]? = some (.cells vs et (0, 0)) := by rw [hw']; exact h1
          have hin := (((cellsIn_row hh).take cs.length).drop (off * es)).take (n * es)
          have := run_loadCells_list (P := P) w' ⟨g.η j, off * es, none⟩ (((vs.toList.take cs.length).drop (off * es)).take (n * es)) (fun k u hu => by rw [add_spot]; simpa using hin k u hu)
          rw [hvl] at this
          exact this
      · cases hm
    · cases hm
  · cases hm

theorem cap_bound (need cap : Nat) (h : cap < need) : Builtin.nextslicecap need cap ≤ 2 * need + 768 := by
  unfold Builtin.nextslicecap
  split
  · omega
  · split
    · omega
    · have hg : ∀ (r c : Nat), c ≤ 2 * need + 768 → Builtin.growBy need r c ≤ 2 * need + 768 := by
        intro r
        induction r with
        | zero => intro c hc; simpa [Builtin.growBy] using hc
        | succ r ih =>
          intro c hc
          simp only [Builtin.growBy]
          split
          · exact hc
          · exact ih _ (by omega)
      exact hg 4 cap (by omega)

/-- append in the model, where there is room. -/
theorem run_append_room {sT xT e : TypeId} {ty : TypeId} {i : TypeInfo} {u : TypeDesc} (hs : P.underlying sT = some (.slice e)) (hx : P.underlying xT = some u) (hxi : ∀ k, u ≠ .int k) (hi : P.info? e = some i)
    {b off n cap k : Nat} {v : Value} {cells : List Value} (hlen : (Builtin.lenOf v).run P w = .ok k w) (hf : (Builtin.firstCells i.size k v).run P w = .ok cells.toArray w) (hc : n + k ≤ cap)
    {vs : Array Value} {et : TypeId} (hh : w.heap[b]? = some (.cells vs et (0, 0))) (hl : off + n * i.size + cells.length ≤ vs.size) (h1 : ∀ c ∈ cells, c.oneCell' = true) :
    (Builtin.append_ #[sT, xT] ty #[.slice (some ⟨b, off, none⟩) n cap, v]).run P w = .ok (.slice (some ⟨b, off, none⟩) (n + k) cap)
      (w.setRow b (vs.toList.take (off + n * i.size) ++ cells ++ vs.toList.drop (off + n * i.size + cells.length)).toArray) := by
  have hst := run_storeCells_at (P := P) b (off + n * i.size) et cells 0 vs w hh (by omega) h1
  simp only [Nat.add_zero] at hst
  have hz : (u matches .int _) = false := by cases u <;> first | rfl | exact (hxi _ rfl).elim
  have hsz : (sizeOf e).run P w = .ok i.size w := by simp [sizeOf, typeInfo, hi]
  simp [Builtin.append_, run_underlying hs, run_underlying hx, hsz, hlen, hf, hc, add_spot, hst]

/-- append of nothing. -/
theorem run_append_none {sT xT e : TypeId} {ty : TypeId} {i : TypeInfo} {u : TypeDesc} (hs : P.underlying sT = some (.slice e)) (hx : P.underlying xT = some u) (hxi : ∀ k, u ≠ .int k) (hi : P.info? e = some i)
    {ad : Option Addr} {n cap : Nat} {v : Value} (hlen : (Builtin.lenOf v).run P w = .ok 0 w) (hf : (Builtin.firstCells i.size 0 v).run P w = .ok #[] w) (hc : n ≤ cap) :
    (Builtin.append_ #[sT, xT] ty #[.slice ad n cap, v]).run P w = .ok (.slice ad n cap) w := by
  have hz : (u matches .int _) = false := by cases u <;> first | rfl | exact (hxi _ rfl).elim
  have hsz : (sizeOf e).run P w = .ok i.size w := by simp [sizeOf, typeInfo, hi]
  cases ad with
  | none => simp [Builtin.append_, run_underlying hs, run_underlying hx, hsz, hlen, hf, hc]
  | some b => simp [Builtin.append_, run_underlying hs, run_underlying hx, hsz, hlen, hf, hc, storeCells]

/-- append in the model, where there is no room. -/
theorem run_append_grow {sT xT e : TypeId} {ty : TypeId} {i : TypeInfo} {u : TypeDesc} (hs : P.underlying sT = some (.slice e)) (hx : P.underlying xT = some u) (hxi : ∀ k, u ≠ .int k) (hi : P.info? e = some i)
    {ad : Option Addr} {n cap k : Nat} {v : Value} {old cells : List Value} (hlen : (Builtin.lenOf v).run P w = .ok k w) (hf : (Builtin.firstCells i.size k v).run P w.drew = .ok cells.toArray w.drew)
    (ho : (Builtin.firstCells i.size n (.slice ad n cap)).run P w.drew = .ok old.toArray w.drew) (hc : ¬ n + k ≤ cap) (hb : (n + k) * (i.bytes + i.size + 1) ≤ maxLenD) (hzf : zeroFits i = true) :
    ∃ newCap rest, n + k ≤ newCap ∧ rest.length = (newCap - (n + k)) * i.size ∧
    (Builtin.append_ #[sT, xT] ty #[.slice ad n cap, v]).run P w = .ok (.slice (some ⟨w.heap.size, 0, none⟩) (n + k) newCap) (w.drew.alloc (.cells (old ++ cells ++ rest).toArray e)) := by
  have hz : (u matches .int _) = false := by cases u <;> first | rfl | exact (hxi _ rfl).elim
  have hsz : ∀ w, (sizeOf e).run P w = .ok i.size w := fun w => by simp [sizeOf, typeInfo, hi]
  have hti : ∀ w, (typeInfo e).run P w = .ok i w := fun w => by simp [typeInfo, hi]
  unfold zeroFits at hzf
  cases hzv : i.zero with
  | none => rw [hzv] at hzf; cases hzf
  | some z =>
    rw [hzv] at hzf
    have hzs : z.cells.size = i.size := by simpa using hzf
    have hzr : ∀ w, (zeroValue e).run P w = .ok z w := fun w => by simp [zeroValue, typeInfo, hi, hzv]
    unfold maxLenD at hb
    have hb1 : (n + k) * i.bytes ≤ 137438953472 := Nat.le_trans (Nat.mul_le_mul_left _ (by omega)) hb
    have hb2 : n + k ≤ 137438953472 := Nat.le_trans (Nat.le_mul_of_pos_right _ (by omega)) hb
    have hcb := cap_bound (n + k) cap (by omega)
    have hb0 : i.bytes ≤ 137438953472 := Nat.le_trans (Nat.le_mul_of_pos_left _ (by omega)) hb1
    have h1 : ¬ ((n + k : Nat) : Int) > IntKind.i64.max := by
      have : IntKind.i64.max = 9223372036854775807 := by decide
      rw [this]; omega
    have h2 : ¬ Builtin.nextslicecap (n + k) cap * i.bytes > 2 ^ 48 := by
      have h3 : Builtin.nextslicecap (n + k) cap * i.bytes ≤ (2 * (n + k) + 768) * i.bytes := Nat.mul_le_mul_right _ hcb
      have h4 : (2 * (n + k) + 768) * i.bytes = 2 * ((n + k) * i.bytes) + 768 * i.bytes := by rw [Nat.add_mul, Nat.mul_assoc]
      omega
    let q : Question := .appendCap (n + k) cap e
    refine ⟨q.cut (w.tape w.drawn q), Builtin.zeroCells z.cells (q.cut (w.tape w.drawn q) - (n + k)) |>.toList, ?_, ?_, ?_⟩
    · simp [q, Question.cut]
    · simp [Builtin.zeroCells, hzs]
    · have hq : q.forced = false := rfl
      simp only [Builtin.append_]
      simp [run_underlying hs, run_underlying hx, hsz, hlen, hc, hti, h2, ho, hf, hzr, newRow]
      rw [if_neg (by omega), if_neg (by simp [Question.forced])]
      have earr : ∀ Z : Array Value, old.toArray ++ (cells.toArray ++ Z) = (old ++ (cells ++ Z.toList)).toArray := fun Z => by apply Array.ext'; simp
      rw [earr]

/-- The cells of a block grow in place. -/
def Gh.grow (g : Gh) (b off : Nat) (cells : List Value) (h1 : ∀ u ∈ cells, u.oneCell' = true) : Gh :=
  { g with
    pc := fun c o => if c = b ∧ off ≤ o ∧ o < off + cells.length then cells[o - off]? else g.pc c o
    one := fun c o v hv => by
      by_cases hc : c = b ∧ off ≤ o ∧ o < off + cells.length
      · rw [if_pos hc] at hv; exact h1 v (List.mem_of_getElem? hv)
      · rw [if_neg hc] at hv; exact g.one c o v hv }

theorem drew_touch (hpc : PcIn g w) : Touch w.heap.size g g w w.drew :=
  ⟨fun _ _ _ => rfl, fun _ _ hv => hv, fun _ _ => rfl, fun o v hv => hpc _ o v hv, fun _ _ => rfl, Nat.le_refl _, fun _ _ => rfl, fun _ _ => rfl, Nat.le_refl _, rfl, rfl, rfl, fun _ => Nat.le_succ _⟩

/-- A new block, own. -/
theorem touch_new_own (hpc : PcIn g w) (prot rest : List Value) (e : TypeId) (k : Kind) (h1 : ∀ u ∈ prot, u.oneCell' = true) : Touch w.heap.size g (g.prot w.heap.size prot k h1) w (w.drew.alloc (.cells (prot ++ rest).toArray e)) := by
  have h0 := drew_touch hpc
  have hpc' : PcIn g w.drew := hpc
  have h2 := touch_new (w := w.drew) hpc' prot rest e k h1
  exact ⟨fun c hc hl => (h2.heap c hc hl).trans (h0.heap c hc hl), h2.pcb, h2.pcx, h2.pcw, h2.kind, h2.n, h2.η, h2.sz, h2.size, h2.os, h2.tape, h2.output, fun hm => Nat.le_trans (h0.drawn hm) (h2.drawn hm)⟩

theorem append_rel (hT : RelT g w d t a.tmps) (hW : WInv g h w) {s : Tmp} {sT xT e : TypeId} {ty : TypeId} {i : TypeInfo} {u : TypeDesc} (hs : P.underlying sT = some (.slice e)) (hx : P.underlying xT = some u) (hxi : ∀ k, u ≠ .int k)
    (hi : P.info? e = some i) {l m : List (List DV)} {av : Value} (ha : RelV g (.list true i.size l) av) (hown : OwnAt g w (.ownSlot d s) (.list true i.size l) av)
    {y : DV} {xv : Value} (hy : RelP g t a.tmps y xv) (hm : rowsD P e h y = some m) (h0 : 0 < i.size) (hz : zeroFits i = true) (hb : (l.length + m.length) * (i.bytes + i.size + 1) ≤ maxLenD) :
    ∃ g' w' v, (Builtin.append_ #[sT, xT] ty #[av, xv]).run P w = .ok v w' ∧ Ext d g g' w w' ∧ WInv g' h w' ∧ RelT g' w' d (t.set s .junk) a.tmps ∧ RelV g' (.list true i.size (l ++ m)) v ∧ OwnAt g' w' (.ownSlot d s) (.list true i.size (l ++ m)) v := by
  have hsz : sz P e = i.size := by simp [sz, hi]
  obtain ⟨hml, vs, hmr, hvl, hone, hrun⟩ := rows_rel (P := P) (a := a) hW hy hm
  rw [hsz] at hml hvl hrun
  obtain ⟨hll, us, hlr, hul, hone', hrun'⟩ := firstCells_list (P := P) ha
  obtain ⟨ad, cap, rfl, hcap⟩ := list_cap ha
  by_cases hm0 : m = []
  · subst hm0
    simp at hvl
    have hvs : vs = [] := hvl
    subst hvs
    refine ⟨g, w, .slice ad l.length cap, run_append_none hs hx hxi hi (by simpa using (hrun w rfl).1) (by simpa using (hrun w rfl).2) hcap, .refl _ _ _, hW, hT.junk s, by simpa using ha, by simpa using hown⟩
  · have hm1 : 0 < m.length := List.length_pos_iff.2 hm0
    by_cases hc : l.length + m.length ≤ cap
    · -- in place
      obtain ⟨b, off, c, et, rfl, hk, hh, hbs, hpc⟩ := hown.list (by omega)
      have hle1 : (l.length + m.length) * i.size ≤ cap * i.size := Nat.mul_le_mul_right _ hc
      rw [Nat.add_mul] at hle1
      have hroom : off + l.length * i.size + vs.length ≤ c.size := by omega
      have hr := run_append_room (P := P) (ty := ty) hs hx hxi hi (hrun w rfl).1 (hrun w rfl).2 hc hh hroom hone
      let w' := w.setRow b (c.toList.take (off + l.length * i.size) ++ vs ++ c.toList.drop (off + l.length * i.size + vs.length)).toArray
      have hnew : w'.heap[b]? = some (.cells (c.toList.take (off + l.length * i.size) ++ vs ++ c.toList.drop (off + l.length * i.size + vs.length)).toArray et (0, 0)) := setRow_heap w b c _ et (0, 0) hh
      have hcl : off + l.length * i.size + vs.length ≤ c.toList.length := by simpa using hroom
      have htouch : Touch b g (g.grow b (off + l.length * i.size) vs hone) w w' := by
        refine ⟨fun k hk' _ => setRow_other w b k _ hk', fun o v hv => ?_, fun k hk' => ?_, fun o v hv => ?_, fun _ _ => rfl, Nat.le_refl _, fun _ _ => rfl, fun _ _ => rfl, by simp [w'], rfl, rfl, rfl, fun _ => Nat.le_refl _⟩
        · simp only [Gh.grow]
          rw [if_neg]
          · exact hv
          · rintro ⟨_, h1, _⟩
            rw [hpc o h1] at hv; cases hv
        · funext o; simp [Gh.grow, hk']
        · simp only [Gh.grow] at hv
          simp only [World.cell?, hnew]
          split at hv
          · rename_i hc'
            obtain ⟨_, h1, h2⟩ := hc'
            obtain ⟨j, rfl⟩ : ∃ j, o = off + l.length * i.size + j := ⟨o - (off + l.length * i.size), by omega⟩
            have := putVals_get (v := v) (vs := c.toList) (us := vs) (off := off + l.length * i.size) (j := j) hcl
            rw [if_pos (by omega)] at this
            rw [show off + l.length * i.size + j - (off + l.length * i.size) = j by omega] at hv
            rw [← this] at hv
            simpa using hv
          · have hold := hW.pc b o v hv
            simp only [World.cell?, hh] at hold
            have hlt : o < off + l.length * i.size := by
              rcases Nat.lt_or_ge o (off + l.length * i.size) with h | h
              · exact h
              · rw [hpc o h] at hv; cases hv
            have hold' : c.toList[o]? = some v := by simpa using hold
            have : (c.toList.take (off + l.length * i.size) ++ vs ++ c.toList.drop (off + l.length * i.size + vs.length))[o]? = some v := by
              rw [List.append_assoc, List.getElem?_append_left (by simp; simp at hcl; omega), List.getElem?_take, if_pos hlt]; exact hold'
            simpa using this
      have hle := htouch.le
      have hrel : RelV (g.grow b (off + l.length * i.size) vs hone) (.list true i.size (l ++ m)) (.slice (some ⟨b, off, none⟩) (l ++ m).length cap) := by
        have hcells : RelL (g.grow b (off + l.length * i.size) vs hone) (l ++ m).flatten (us ++ vs) := by
          rw [List.flatten_append]; exact (hlr.mono hle).append (hmr.mono hle)
        refine .list (by simpa using hc) (fun r hr => ?_) hcells.len hcells.at_ (fun k v hv => ?_)
        · rcases List.mem_append.1 hr with h | h
          · exact hll r h
          · exact hml r h
        · rw [List.getElem?_append] at hv
          split at hv
          · rename_i hk'
            cases ha with
            | empty => simp at hul; subst hul; simp at hk'
            | list q1 q2 q3 q4 q5 =>
              rename_i vs'
              have : us = vs' := by
                have e1 := (hrun' w).2 hW.pc
                have e2 := run_loadCells_list (P := P) w ⟨b, off, none⟩ vs' (fun j u hu => by rw [add_spot]; exact cellsIn_pc hW.pc q5 j u hu)
                have hl' : vs'.length = l.length * i.size := by rw [← q3, flatten_len q2]
                rw [hl'] at e2
                have e1' : (loadCells ⟨b, off, none⟩ (l.length * i.size)).run P w = .ok us.toArray w := e1
                rw [e2] at e1'
                simp at e1'
                exact e1'.symm
              subst this
              exact hle.pc _ _ _ (q5 k v hv)
          · rename_i hk'
            have hkl : k - us.length < vs.length := (List.getElem?_eq_some_iff.1 hv).1
            simp only [Gh.grow]
            rw [if_pos ⟨trivial, by omega, by omega⟩]
            rw [show off + k - (off + l.length * i.size) = k - us.length by omega]
            exact hv
      refine ⟨_, w', _, hr, htouch.ext (.inr (by rw [hk]; simp [Keep])), htouch.winv rfl (.inr ⟨fun i => by rw [hk]; simp, fun i k => by rw [hk]; simp⟩) hW, ?_, by rw [List.length_append] at hrel; exact hrel, ?_⟩
      · refine ⟨by simp [hT.len], fun s' z v hz hv => ?_⟩
        by_cases e' : s = s'
        · subst e'
          have hs : s < t.length := by have := (List.getElem?_eq_some_iff.1 hz).1; simpa using this
          rw [List.getElem?_set_self hs] at hz; cases hz
          exact ⟨.junk _, OwnAt.none rfl⟩
        · have := (hT.junk s).at_ s' z v hz hv
          exact htouch.relS (.inr ⟨by rw [hk]; simp, by rw [hk]; simp [e'], fun k => by rw [hk]; simp⟩) this
      · refine .mk_list fun _ => ?_
        refine ⟨b, off, _, et, rfl, hk, hnew, ?_, fun o ho => ?_⟩
        · simp; simp at hcl; omega
        · have hlen2 : (l ++ m).length * i.size = l.length * i.size + vs.length := by rw [List.length_append, Nat.add_mul, hvl]
          rw [hlen2] at ho
          simp only [Gh.grow]
          rw [if_neg (by omega)]
          exact hpc o (by omega)
    · -- a new block
      obtain ⟨newCap, rest, hn1, hn2, hr⟩ := run_append_grow (P := P) (ty := ty) (ad := ad) hs hx hxi hi (hrun w rfl).1 (hrun w.drew rfl).2 ((hrun' w.drew).2 hW.pc) hc hb hz
      have htouch := touch_new_own hW.pc (us ++ vs) rest e (.ownSlot d s) (fun u hu => (List.mem_append.1 hu).elim (hone' u) (hone u))
      have hcells : RelL g (l ++ m).flatten (us ++ vs) := by rw [List.flatten_append]; exact hlr.append hmr
      have hrel := new_list (w := w) (own := true) (cap := newCap) (k := .ownSlot d s) htouch.le hcells (fun r hr => by
        rcases List.mem_append.1 hr with h | h
        · exact hll r h
        · exact hml r h) (by simpa using hn1)
      refine ⟨_, _, _, hr, htouch.ext (.inl (Nat.le_refl _)), htouch.winv rfl (.inl (Nat.le_refl _)) hW, htouch.relT (.inl (Nat.le_refl _)) (hT.junk s), by rw [List.length_append] at hrel; exact hrel, ?_⟩
      refine .mk_list fun _ => ?_
      have hlen : (us ++ vs).length = (l.length + m.length) * i.size := by rw [List.length_append, hul, hvl, Nat.add_mul]
      refine ⟨w.heap.size, 0, _, e, rfl, by simp [Gh.prot], heap_new w.drew _, ?_, fun o ho => ?_⟩
      · simp only [List.size_toArray, List.length_append, hn2, Nat.zero_add] at *
        have : newCap * i.size = (l.length + m.length) * i.size + (newCap - (l.length + m.length)) * i.size := by rw [← Nat.add_mul]; congr 1; omega
        omega
      · simp only [Gh.prot, if_true]
        rw [List.length_append] at ho
        exact List.getElem?_eq_none (by omega)
end
end Go.DS

/-
  append as an operation; closures; maps.
-/
namespace Go.DS
set_option linter.unusedSectionVars false
variable [M : Mono]
open Go
set_option linter.unusedVariables false

section
variable {P : Program} {o : Oper} {a : Act} {g : Gh} {w : World} {h : DHeap} {d : Nat} {t : List DV} {x : DV}

theorem set_set {α : Type} (l : List α) (i : Nat) (x y : α) : (l.set i x).set i y = l.set i y := by simp

theorem args_two {α : Type} {args : Array α} {x y : α} (h0 : args[0]? = some x) (h1 : args[1]? = some y) (hs : args.size = 2) : args = #[x, y] := by
  apply Array.ext'
  obtain ⟨l⟩ := args
  simp at h0 h1 hs ⊢
  match l, h0, h1, hs with
  | [a, b], h0, h1, _ => simp at h0 h1; subst h0; subst h1; rfl

theorem appendD_spec {ty : TypeId} {y b r : DV} (hr : appendD P ty h y b = some r) : ∃ e l m i, P.underlying ty = some (.slice e) ∧ P.info? e = some i ∧ y = .list true i.size l ∧ rowsD P e h b = some m ∧ 0 < i.size ∧ zeroFits i = true ∧
    (l.length + m.length) * (i.bytes + i.size + 1) ≤ maxLenD ∧ r = .list true i.size (l ++ m) := by
  unfold appendD at hr
  split at hr
  · rename_i e es l he
    split at hr
    · rename_i m i hm hi
      split at hr
      · rename_i hc
        cases hr
        obtain ⟨rfl, h1, h2, h3⟩ := hc
        refine ⟨e, l, m, i, ?_, hi, rfl, hm, h1, h2, h3, rfl⟩
        unfold elemOfSlice at he
        split at he
        · cases he; assumption
        · cases he
      · cases hr
    · cases hr
  · cases hr

theorem RelP.set_weak {tmps : Array Value} {y : DV} {v : Value} {s : Nat} {z : DV} (hz : z.isBox = false) (hp : RelP g t tmps y v) : RelP g (t.set s z) tmps y v := by
  cases y <;> simp only [RelP] at * <;> try exact hp
  intro cs hcs
  rw [List.getElem?_set] at hcs
  split at hcs
  · split at hcs
    · cases hcs; simp [DV.isBox] at hz
    · cases hcs
  · exact hp cs hcs

theorem step_append (hT : RelT g w d t a.tmps) (hW : WInv g h w) {args : Array Operand} {argTypes : Array TypeId} (ho : o.op = .call { callee := .builtin .append, args, argTypes }) {x y : Operand} {ty ty' : TypeId}
    (h0 : args[0]? = some x) (h1 : args[1]? = some y) (hs : args.size = 2) (ht0 : argTypes[0]? = some ty) (ht1 : argTypes[1]? = some ty') {u : TypeDesc} (hu : P.underlying ty' = some u) (hui : ∀ k, u ≠ .int k)
    {q : DV} {t' : List DV} (hq : takeD P ty t x = (q, t')) {s : Tmp} (hd : o.dst = some s) {r : DV} (hr : appendD P ty h q (opnd P ty' t y) = some r) : StepOut P o a g w d (t'.set s r) h := by
  obtain ⟨e, l, m, i, hse, hi, rfl, hm, hz0, hzf, hb, rfl⟩ := appendD_spec hr
  obtain ⟨g', e1, e2, e3, he, hW', hT', hp, hown, _⟩ := take_rel hT hW hq (.ownSlot d s)
  have hy := (opnd_rel (P := P) hT ty' y).mono he.le
  obtain ⟨g'', w', v, hrun, hext, hW'', hT'', hrel, hown'⟩ := append_rel (a := a) (xT := ty') (sT := ty) (ty := o.type) hT' hW' hse hu hui hi (l := l) (m := m) (s := s) (by exact hp) hown (hy.box_iff (takeD_box hq)) hm hz0 hzf hb
  have hargs := args_two h0 h1 hs
  subst hargs
  have hbt : Builtin.append_ argTypes o.type #[a.eval x, a.eval y] = Builtin.append_ #[ty, ty'] o.type #[a.eval x, a.eval y] := by
    simp [Builtin.append_, ht0, ht1]
  refine ⟨g'', w', v, .inl ?_, he.trans hext, hW'', ?_⟩
  · simp [execOp, ho, resolve, invoke, builtin, hbt, hrun]
  · rw [hd]
    have := hT''.put (dst := some s) (x := .list true i.size (l ++ m)) hrel.relP (fun s' hs' => by cases hs'; exact hown')
    simp only [putD, set_set] at this
    exact this

/-- What a variable holds lasts from now on. -/
def Gh.frz (g : Gh) (b : Nat) (cells : List Value) (h1 : ∀ u ∈ cells, u.oneCell' = true) : Gh := g.prot b cells .data h1

theorem capture_rel : ∀ (xs : List Operand) (t : List DV) (g : Gh) (ds : List DV) (t' : List DV), RelT g w d t a.tmps → WInv g h w → capture P t xs = some (ds, t') →
    ∃ g', Ext d g g' w w ∧ WInv g' h w ∧ RelT g' w d t' a.tmps ∧ RelL g' ds (xs.map a.eval)
  | [], t, g, ds, t', hT, hW, hc => by simp [capture] at hc; obtain ⟨rfl, rfl⟩ := hc; exact ⟨g, .refl _ _ _, hW, hT, RelL.nil g⟩
  | x :: xs, t, g, ds, t', hT, hW, hc => by
    simp only [capture] at hc
    split at hc
    · rename_i s
      split at hc
      · rename_i cs hts
        split at hc
        · rename_i hcell
          split at hc
          case h_2 => cases hc
          rename_i ds' t'' hrest
          cases hc
          obtain ⟨u, hu, hr⟩ := hT.get hts
          obtain ⟨b, rfl, vs, et, h1, h2, h3, h4, h5⟩ := hr
          have hone : ∀ u ∈ vs.toList, u.oneCell' = true := relL_one h4 hcell
          have htouch : Touch b g (g.frz b vs.toList hone) w w := by
            refine ⟨fun _ _ _ => rfl, fun o v hv => (by rw [h3] at hv; cases hv), fun k hk => ?_, fun o v hv => ?_, fun k hk => (by simp [Gh.frz, Gh.prot, hk]), Nat.le_refl _, fun _ _ => rfl, fun _ _ => rfl, Nat.le_refl _, rfl, rfl, rfl, fun _ => Nat.le_refl _⟩
            · funext o; simp [Gh.frz, Gh.prot, hk]
            · simp only [Gh.frz, Gh.prot, if_true] at hv
              simp only [World.cell?, h1]; simpa using hv
          have hev : a.eval (.tmp s) = .pointer (some ⟨b, 0, none⟩) := by simp only [Act.eval]; exact getD_of_get hu
          have hep : RelV (g.frz b vs.toList hone) (.eptr (cs.map DV.shed)) (.pointer (some ⟨b, 0, none⟩)) := by
            have := (h4.mono htouch.le).map_drop DV.shed (fun _ _ => RelV.shed)
            exact .eptr this.len this.at_ (fun k v hv => by simp [Gh.frz, Gh.prot]; simpa using hv)
          have hT1 : RelT (g.frz b vs.toList hone) w d (t.set s (.eptr (cs.map DV.shed))) a.tmps := by
            refine ⟨by simp [hT.len], fun i y v hy hv => ?_⟩
            by_cases e : s = i
            · subst e
              rw [List.getElem?_set_self (List.getElem?_eq_some_iff.1 hts).1] at hy
              cases hy
              rw [hu] at hv; cases hv
              exact ⟨hep, .none rfl⟩
            · rw [List.getElem?_set_ne e] at hy
              have hr := htouch.relS (d := d) (.inr ⟨by rw [h2]; simp [e], by rw [h2]; simp, fun k => by rw [h2]; simp⟩) (hT.at_ i y v hy hv)
              by_cases hp : y.plain = true
              · rw [RelS.plain_iff hp] at *; exact hr
              · cases y <;> simp [DV.plain, DV.isBox, DV.isPath] at hp
                · exact hr
                · rename_i s₁ off
                  intro cs' hcs'
                  by_cases e₁ : s = s₁
                  · subst e₁
                    rw [List.getElem?_set_self (List.getElem?_eq_some_iff.1 hts).1] at hcs'
                    cases hcs'
                  · rw [List.getElem?_set_ne e₁] at hcs'
                    exact hr cs' hcs'
          have hW1 := htouch.winv rfl (.inr ⟨fun i => by rw [h2]; simp, fun i k => by rw [h2]; simp⟩) hW
          obtain ⟨g', q1, q2, q3, q4⟩ := capture_rel xs _ _ ds' _ hT1 hW1 hrest
          exact ⟨g', (htouch.ext (.inr (by rw [h2]; simp [Keep]))).trans q1, q2, q3, .cons (by rw [hev]; exact hep.mono q1.le) q4⟩
        · cases hc
      · rename_i y hnb hts
        split at hc
        · rename_i hpl
          split at hc
          · rename_i ds' t'' hrest
            cases hc
            obtain ⟨v, hv, hr, _⟩ := hT.getV hts hpl
            have hev : a.eval (.tmp s) = v := by simp only [Act.eval]; exact getD_of_get hv
            obtain ⟨g', q1, q2, q3, q4⟩ := capture_rel xs _ _ ds' _ hT hW hrest
            exact ⟨g', q1, q2, q3, .cons (by rw [hev]; exact (hr.mono q1.le).shed) q4⟩
          · cases hc
        · cases hc
      · cases hc
    · cases hc

theorem RelL.drop' {ds : List DV} {vs : List Value} (hr : RelL g ds vs) (n : Nat) : RelL g (ds.drop n) (vs.drop n) := hr.drop n

theorem step_makeFunc (hT : RelT g w d t a.tmps) (hW : WInv g h w) {fn : Fn} {first cap : Array Operand} (ho : o.op = .makeFunc fn first cap) {ds t' : List DV} (hc : capture P t (first.toList ++ cap.toList) = some (ds, t')) :
    StepOut P o a g w d (putD t' o.dst (.fn fn (ds.take first.size) (ds.drop first.size))) h := by
  obtain ⟨g', he, hW', hT', hr⟩ := capture_rel (first.toList ++ cap.toList) t g ds t' hT hW hc
  refine ⟨g', w, .func fn (first.map a.eval) (cap.map a.eval), .inl ?_, he, hW', hT'.put ?_ (fun _ _ => .none rfl)⟩
  · simp [execOp, ho, Instr.makeFunc]
  · have h1 := hr.take first.size
    have h2 := hr.drop first.size
    have e1 : ((first.toList ++ cap.toList).map a.eval).take first.size = first.toList.map a.eval := by
      rw [List.map_append, List.take_append, List.take_of_length_le (by simp)]; simp
    have e2 : ((first.toList ++ cap.toList).map a.eval).drop first.size = cap.toList.map a.eval := by
      rw [List.map_append, List.drop_append, List.drop_eq_nil_of_le (by simp)]; simp
    rw [e1] at h1
    rw [e2] at h2
    have := RelV.fn (f := fn) h1.len h1.at_ h2.len h2.at_
    have e3 : first.map a.eval = (first.toList.map a.eval).toArray := by apply Array.ext'; simp
    have e4 : cap.map a.eval = (cap.toList.map a.eval).toArray := by apply Array.ext'; simp
    rw [e3, e4]
    exact this.relP

theorem step_makeMap (hT : RelT g w d t a.tmps) (hW : WInv g h w) {ty : TypeId} (ho : o.op = .makeMap ty none) : StepOut P o a g w d (putD t o.dst (.mp h.length)) (h ++ [.map []]) := by
  have htouch := touch_addObj hW.pc (.map #[] 0)
  have hη : (g.addObj w.heap.size).η g.n = w.heap.size := by simp [Gh.addObj]
  have hheld : HeldMap (g.addObj w.heap.size) (w.alloc (.map #[] 0)) w.heap.size (.obj g.n) [] :=
    ⟨#[], 0, heap_new w _, by simp [Gh.addObj], fun o' => pc_fresh hW.pc (Nat.le_refl _) o', ⟨rfl, fun k e m he => by simp at he⟩, Stamped.nil 0⟩
  refine ⟨_, _, .map (some w.heap.size), .inl ?_, htouch.ext (.inl (Nat.le_refl _)), winv_push hW (by simp only [RelO, hη]; exact hheld), ?_⟩
  · simp [execOp, ho, Instr.makeMap]
  · have hT' := htouch.relT (d := d) (.inl (Nat.le_refl _)) hT
    refine hT'.put ?_ (fun _ _ => .none rfl)
    have := RelV.mp (g := g.addObj w.heap.size) (i := g.n) (by simp [Gh.addObj])
    rw [hη, ← hW.n] at this
    exact this.relP

theorem touch_setObj {b : Nat} (hp : ∀ o, g.pc b o = none) (ob : Obj) : Touch b g g w { w with heap := w.heap.setIfInBounds b ob } where
  heap c hc hl := by
    show (w.heap.setIfInBounds b ob)[c]? = _
    rw [Array.getElem?_setIfInBounds_ne (Ne.symm hc)]
  pcb o v hv := hv
  pcx c hc := rfl
  pcw o v hv := by rw [hp] at hv; cases hv
  kind c hc := rfl
  n := Nat.le_refl _
  η i hi := rfl
  sz i hi := rfl
  size := by simp
  os := rfl
  tape := rfl
  output := rfl
  drawn _ := Nat.le_refl _

theorem sameBits_refl : ∀ (n : Nat) (ks : List Nat) (q : Bool) (xs ys : List Value), (q = false → ks.length = 1) → eqV ks xs ys = some true → Instr.sameBits (n + 2) (valOf q xs) (valOf q ys) = true := by
  have one : ∀ (n k : Nat) (x y : Value), eq1 k x y = some true → Instr.sameBits (n + 1) x y = true := by
    intro n k x y he
    unfold eq1 at he
    split at he
    · rename_i k a k' b
      by_cases hk : k = k'
      · subst hk; simp at he; subst he; simp [Instr.sameBits]
      · simp [hk] at he
    · simp at he; subst he; simp [Instr.sameBits]
    · simp at he; simp [Instr.sameBits, he]
    · cases he
  intro n ks q xs ys hq he
  cases q with
  | false =>
    have h1 := hq rfl
    match ks, h1 with
    | [k], _ =>
      obtain ⟨x, y, rfl, rfl⟩ := eqV_one he
      simp only [eqV] at he
      split at he
      · rename_i p q hp hq
        cases hq
        simp at he
        subst he
        exact one (n + 1) k x y hp
      · cases he
  | true =>
    have hall : ∀ (ks : List Nat) (xs ys : List Value), eqV ks xs ys = some true → xs.length = ys.length ∧ (xs.zip ys).all (fun (x, y) => Instr.sameBits (n + 1) x y) = true := by
      intro ks
      induction ks with
      | nil => intro xs ys h; cases xs <;> cases ys <;> simp [eqV] at h ⊢
      | cons k ks ih =>
        intro xs ys h
        cases xs <;> cases ys <;> simp only [eqV] at h <;> try (cases h)
        rename_i x xs y ys
        split at h
        · rename_i p q hp hq
          simp at h
          obtain ⟨rfl, rfl⟩ := h
          have := ih xs ys hq
          refine ⟨by simp [this.1], ?_⟩
          simp only [List.zip_cons_cons, List.all_cons, Bool.and_eq_true]
          exact ⟨one n k x y hp, this.2⟩
        · cases h
    obtain ⟨h1, h2⟩ := hall ks xs ys he
    simp only [valOf, if_true, Instr.sameBits]
    simp [h1]
    simpa using h2
end
end Go.DS

/-
  Slices that are written in place: append, make, a slice of what is told.
-/
namespace Go.DS
set_option linter.unusedSectionVars false
variable [M : Mono]
open Go
set_option linter.unusedVariables false

section
variable {P : Program} {o : Oper} {a : Act} {g : Gh} {w : World} {h : DHeap} {d : Nat} {t : List DV} {x : DV}

/-- Block b becomes object g.n, a row of m cells. -/
def Gh.addRow (g : Gh) (b m : Nat) : Gh := { g with n := g.n + 1, η := fun i => if i = g.n then b else g.η i, kind := fun c => if c = b then .obj g.n else g.kind c, sz := fun i => if i = g.n then m else g.sz i }

theorem touch_addRow {b m : Nat} {w' : World} (ht : Touch b g g w w') (hp : ∀ o, g.pc b o = none) : Touch b g (g.addRow b m) w w' where
  heap := ht.heap
  pcb o v hv := hv
  pcx c hc := rfl
  pcw o v hv := by
    have : g.pc b o = some v := hv
    rw [hp] at this; cases this
  kind c hc := by simp [Gh.addRow, hc]
  n := Nat.le_succ _
  η i hi := by simp [Gh.addRow]; omega
  sz i hi := by simp [Gh.addRow]; omega
  size := ht.size
  os := ht.os
  tape := ht.tape
  output := ht.output
  drawn := ht.drawn

theorem touch_alloc (hpc : PcIn g w) (ob : Obj) : Touch w.heap.size g g w (w.alloc ob) where
  heap c hc hl := by
    show (w.heap.push _)[c]? = _
    rw [Array.getElem?_push, if_neg (by omega)]
  pcb o v hv := hv
  pcx c hc := rfl
  pcw o v hv := by rw [pc_fresh hpc (Nat.le_refl _)] at hv; cases hv
  kind c hc := rfl
  n := Nat.le_refl _
  η i hi := rfl
  sz i hi := rfl
  size := by show _ ≤ (w.heap.push _).size; simp
  os := rfl
  tape := rfl
  output := rfl
  drawn _ := Nat.le_refl _

theorem touch_drew_alloc (hpc : PcIn g w) (ob : Obj) : Touch w.heap.size g g w (w.drew.alloc ob) := by
  have h0 := drew_touch hpc
  have h2 := touch_alloc (w := w.drew) (show PcIn g w.drew from hpc) ob
  exact ⟨fun c hc hl => (h2.heap c hc hl).trans (h0.heap c hc hl), h2.pcb, h2.pcx, h2.pcw, h2.kind, h2.n, h2.η, h2.sz, h2.size, h2.os, h2.tape, h2.output, fun hm => Nat.le_trans (h0.drawn hm) (h2.drawn hm)⟩

theorem touch_same (hpc : PcIn g w) (b : Nat) : Touch b g g w w :=
  ⟨fun _ _ _ => rfl, fun _ _ hv => hv, fun _ _ => rfl, fun o v hv => hpc _ o v hv, fun _ _ => rfl, Nat.le_refl _, fun _ _ => rfl, fun _ _ => rfl, Nat.le_refl _, rfl, rfl, rfl, fun _ => Nat.le_refl _⟩

/-- What a block is that becomes a row: a new one, or a row's. -/
def RowB (g : Gh) (w : World) (h h1 : DHeap) (b : Nat) : Prop := w.heap.size ≤ b ∧ h1 = h ∨ ∃ j, g.kind b = .obj j ∧ h1 = h.set j .dead

theorem winv_row (hW : WInv g h w) {w' : World} {b m : Nat} {h1 : DHeap} {cs : List DV} (ht : Touch b g g w w') (hp : ∀ o, g.pc b o = none) (hb : RowB g w h h1 b)
    (hr : HeldRow (g.addRow b m) w' b (.obj g.n) m cs) : WInv (g.addRow b m) (h1 ++ [.row cs]) w' where
  n := by
    have : h1.length = h.length := by rcases hb with ⟨_, rfl⟩ | ⟨j, _, rfl⟩ <;> simp
    simp [Gh.addRow, ← hW.n, this]
  pc := (touch_addRow (m := m) ht hp).pc hW.pc
  obj i o' ho := by
    have hlen : h1.length = g.n := by rw [← hW.n]; rcases hb with ⟨_, rfl⟩ | ⟨j, _, rfl⟩ <;> simp
    rw [List.getElem?_append] at ho
    split at ho
    · rename_i hi
      rw [hlen] at hi
      rcases hb with ⟨hb, rfl⟩ | ⟨j, hj, rfl⟩
      · exact (touch_addRow ht hp).relO hi (.inl hb) (hW.obj i o' ho)
      · by_cases e : j = i
        · subst e
          rw [List.getElem?_set_self (by rw [hW.n]; exact hi)] at ho
          cases ho
          trivial
        · rw [List.getElem?_set_ne e] at ho
          exact (touch_addRow ht hp).relO hi (.inr ⟨by rw [hj]; simp; exact e, fun k => by rw [hj]; simp⟩) (hW.obj i o' ho)
    · rename_i hi
      rw [hlen] at ho hi
      have : i = g.n := by
        have := (List.getElem?_eq_some_iff.1 ho).1
        simp at this; omega
      subst this
      simp at ho
      subst ho
      show HeldRow _ _ _ _ _ _
      have e1 : (g.addRow b m).η g.n = b := by simp [Gh.addRow]
      have e2 : (g.addRow b m).sz g.n = m := by simp [Gh.addRow]
      rw [e1, e2]
      exact hr


theorem relL_self {g' : Gh} {ds : List DV} {vs : List Value} (hr : RelL g' ds vs) : RelL g' (ds.map DV.shed) vs := hr.map_drop DV.shed (fun _ _ => RelV.shed)

/-- append to a row that is written in place, in place. -/
theorem appendV_room (hW : WInv g h w) {j es n cap : Nat} {cs : List DV} (hcs : h[j]? = some (.row cs)) (hj : j < g.n) (hb : (0 + cap) * es ≤ g.sz j) {m : List (List DV)} {vs : List Value} (hm : RelL g m.flatten vs)
    (hone : ∀ c ∈ vs, c.oneCell' = true) (hvl : vs.length = m.length * es) (hn : n * es ≤ cs.length) (hc : n + m.length ≤ cap) :
    ∃ c et, w.heap[g.η j]? = some (.cells c et (0, 0)) ∧ 0 + n * es + vs.length ≤ c.size ∧
      Ext d g (g.addRow (g.η j) (g.sz j)) w (w.setRow (g.η j) (c.toList.take (0 + n * es) ++ vs ++ c.toList.drop (0 + n * es + vs.length)).toArray) ∧
      WInv (g.addRow (g.η j) (g.sz j)) (h.set j .dead ++ [.row (cs.take (n * es) ++ m.flatten.map DV.shed)]) (w.setRow (g.η j) (c.toList.take (0 + n * es) ++ vs ++ c.toList.drop (0 + n * es + vs.length)).toArray) ∧
      ∀ {t : List DV} {tmps : Array Value}, RelT g w d t tmps → RelT (g.addRow (g.η j) (g.sz j)) (w.setRow (g.η j) (c.toList.take (0 + n * es) ++ vs ++ c.toList.drop (0 + n * es + vs.length)).toArray) d t tmps := by
  obtain ⟨c, et, h1, h2, h3, h4, h5, h6, h7⟩ := hW.obj j _ hcs
  have hcl : cs.length ≤ c.size := by have := h4.len; simp at this; omega
  have hroom : 0 + n * es + vs.length ≤ c.size := by
    have := Nat.mul_le_mul_right es hc
    rw [Nat.add_mul] at this
    rw [Nat.zero_add] at hb
    omega
  have ht := touch_setRow (g := g) (w := w) h3 (c.toList.take (0 + n * es) ++ vs ++ c.toList.drop (0 + n * es + vs.length)).toArray
  have ht2 := touch_addRow (m := g.sz j) ht h3
  refine ⟨c, et, h1, hroom, ht2.ext (.inr (by rw [h2]; simp [Keep])), winv_row hW ht h3 (.inr ⟨j, h2, rfl⟩) ?_, fun hT => ht2.relT (.inr ⟨fun s => by rw [h2]; simp, fun s => by rw [h2]; simp, fun s k => by rw [h2]; simp⟩) hT⟩
  have e1 : (cs.take (n * es) ++ m.flatten.map DV.shed).length = n * es + vs.length := by
    rw [List.length_append, List.length_map, hm.len, List.length_take]; omega
  have e2 : (c.toList.take (0 + n * es) ++ vs ++ c.toList.drop (0 + n * es + vs.length)).take (n * es + vs.length) = (c.toList.take cs.length).take (n * es) ++ vs := by
    have l1 : (c.toList.take (0 + n * es) ++ vs).length = n * es + vs.length := by simp; omega
    rw [List.take_append_of_le_length (by omega), List.take_of_length_le (by omega), Nat.zero_add, List.take_take, Nat.min_eq_left hn]
  have hle := ht2.le
  refine ⟨_, et, setRow_heap w _ c _ et (0, 0) h1, by simp [Gh.addRow], h3, ?_, ?_, by simp; omega, ?_⟩
  · rw [e1, e2]
    exact ((h4.take (n * es)).append (relL_self hm)).mono hle
  · intro x hx
    rcases List.mem_append.1 hx with hx | hx
    · exact h5 x (List.mem_of_mem_take hx)
    · obtain ⟨y, _, rfl⟩ := List.mem_map.1 hx
      exact DV.shed_shed y
  · rw [e1, e2]
    intro v hv
    rcases List.mem_append.1 hv with hv | hv
    · exact h7 v (List.mem_of_mem_take hv)
    · exact hone v hv

/-- A new row. -/
theorem row_new (hW : WInv g h w) {w0 : World} (hw0 : w0 = w ∨ w0 = w.drew) {h1 : DHeap} (hh1 : h1 = h ∨ ∃ j, h1 = h.set j .dead) {ds : List DV} {us rest : List Value} {e : TypeId} (hr : RelL g ds us) (hone : ∀ v ∈ us, v.oneCell' = true) {m : Nat} (hm : m ≤ (us ++ rest).length) :
    Ext d g (g.addRow w.heap.size m) w (w0.alloc (.cells (us ++ rest).toArray e)) ∧ WInv (g.addRow w.heap.size m) (h1 ++ [.row (ds.map DV.shed)]) (w0.alloc (.cells (us ++ rest).toArray e)) ∧
      ∀ {t : List DV} {tmps : Array Value}, RelT g w d t tmps → RelT (g.addRow w.heap.size m) (w0.alloc (.cells (us ++ rest).toArray e)) d t tmps := by
  have ht : Touch w.heap.size g g w (w0.alloc (.cells (us ++ rest).toArray e)) := by
    rcases hw0 with rfl | rfl
    · exact touch_alloc hW.pc _
    · exact touch_drew_alloc hW.pc _
  have hsz : w0.heap.size = w.heap.size := by rcases hw0 with rfl | rfl <;> rfl
  have hp := fun o => pc_fresh hW.pc (Nat.le_refl _) o
  have ht2 := touch_addRow (m := m) ht hp
  have hrow : HeldRow (g.addRow w.heap.size m) (w0.alloc (.cells (us ++ rest).toArray e)) w.heap.size (.obj g.n) m (ds.map DV.shed) := by
    have hl := hr.len
    refine ⟨_, e, by rw [← hsz]; exact heap_new w0 _, by simp [Gh.addRow], hp, ?_, ?_, by simpa using hm, ?_⟩
    · have : (us ++ rest).toArray.toList.take (ds.map DV.shed).length = us := by simp [hl]
      rw [this]
      exact (relL_self hr).mono ht2.le
    · intro x hx
      obtain ⟨y, _, rfl⟩ := List.mem_map.1 hx
      exact DV.shed_shed y
    · have : (us ++ rest).toArray.toList.take (ds.map DV.shed).length = us := by simp [hl]
      rw [this]
      exact hone
  refine ⟨ht2.ext (.inl (Nat.le_refl _)), ?_, fun hT => ht2.relT (.inl (Nat.le_refl _)) hT⟩
  rcases hh1 with rfl | ⟨j, rfl⟩
  · exact winv_row hW ht hp (.inl ⟨Nat.le_refl _, rfl⟩) hrow
  · -- an object is dead behind it
    have hW2 := winv_row hW ht hp (.inl ⟨Nat.le_refl _, rfl⟩) hrow
    by_cases hj : j < h.length
    · have := winv_setObj (h := h ++ [.row (ds.map DV.shed)]) (i := j) (ob := .dead) hW2.n hW2.pc trivial (fun k o hk _ => hW2.obj k o hk)
      rwa [List.set_append_left _ _ hj] at this
    · rw [List.set_eq_of_length_le (by omega)]
      exact hW2

theorem step_appendV (hT : RelT g w d t a.tmps) (hW : WInv g h w) {args : Array Operand} {argTypes : Array TypeId} (ho : o.op = .call { callee := .builtin .append, args, argTypes }) {x y : Operand} {ty ty' : TypeId}
    (h0 : args[0]? = some x) (h1 : args[1]? = some y) (hs : args.size = 2) (ht0 : argTypes[0]? = some ty) (ht1 : argTypes[1]? = some ty') {u : TypeDesc} (hu : P.underlying ty' = some u) (hui : ∀ k, u ≠ .int k)
    {s : Tmp} (hd : o.dst = some s) {r : DV} {h' : DHeap} (hr : appendV P ty h (opnd P ty t x) (opnd P ty' t y) = some (r, h')) : StepOut P o a g w d (t.set s r) h' := by
  have hargs := args_two h0 h1 hs
  subst hargs
  have hbt : Builtin.append_ argTypes o.type #[a.eval x, a.eval y] = Builtin.append_ #[ty, ty'] o.type #[a.eval x, a.eval y] := by
    simp [Builtin.append_, ht0, ht1]
  -- what is to be shown
  suffices hmain : ∃ g' w' v, (Builtin.append_ #[ty, ty'] o.type #[a.eval x, a.eval y]).run P w = .ok v w' ∧ Ext d g g' w w' ∧ WInv g' h' w' ∧ RelT g' w' d t a.tmps ∧ RelV g' r v ∧ ∀ p, OwnAt g' w' p r v by
    obtain ⟨g', w', v, hrun, hext, hW', hT', hrel, hown⟩ := hmain
    refine ⟨g', w', v, .inl ?_, hext, hW', ?_⟩
    · simp [execOp, ho, resolve, invoke, builtin, hbt, hrun]
    · rw [hd]
      exact hT'.put (dst := some s) (x := r) hrel.relP (fun s' hs' => hown _)
  have hx := opnd_rel (P := P) hT ty x
  have hy := opnd_rel (P := P) hT ty' y
  generalize opnd P ty t x = xv at hx hr
  generalize opnd P ty' t y = yv at hy hr
  unfold appendV at hr
  split at hr
  case h_2 => cases hr
  rename_i e he
  have hse : P.underlying ty = some (.slice e) := by
    unfold elemOfSlice at he
    split at he
    · cases he; assumption
    · cases he
  split at hr
  case h_2 => cases hr
  rename_i m i hm hi
  split at hr
  case isFalse => cases hr
  rename_i hz
  obtain ⟨hi0, hzf⟩ := hz
  have hsz : sz P e = i.size := by simp [sz, hi]
  obtain ⟨hml, vs, hmr, hvl, hone, hrun⟩ := rows_rel (P := P) (a := a) hW hy hm
  rw [hsz] at hml hvl hrun
  split at hr
  · -- nil
    have hxv : a.eval x = .slice none 0 0 := by
      have h2 : RelV g _ (a.eval x) := hx
      generalize a.eval x = q at h2
      cases h2; rfl
    rw [hxv]
    split at hr
    case isFalse => cases hr
    rename_i hb
    split at hr
    · rename_i hme
      cases hr
      have hm0 : m = [] := by simpa using hme
      subst hm0
      have hvs : vs = [] := by simpa using hvl
      subst hvs
      exact ⟨g, w, _, run_append_none hse hu hui hi (by simpa using (hrun w rfl).1) (by simpa using (hrun w rfl).2) (Nat.le_refl _), .refl _ _ _, hW, hT, .sc _, fun p => .none rfl⟩
    · rename_i hme
      cases hr
      have hm1 : 0 < m.length := List.length_pos_iff.2 (by simpa using hme)
      obtain ⟨newCap, rest, hn1, hn2, hr⟩ := run_append_grow (P := P) (ty := o.type) (ad := none) (n := 0) (cap := 0) (old := []) hse hu hui hi (hrun w rfl).1 (hrun w.drew rfl).2 (by simp [Builtin.firstCells]) (by omega) (by simpa using hb) hzf
      have hm2 : newCap * i.size ≤ (vs ++ rest).length := by
        rw [List.length_append, hvl, hn2, ← Nat.add_mul]
        exact Nat.mul_le_mul_right _ (by omega)
      obtain ⟨k1, k2, k3⟩ := row_new (d := d) (e := e) (rest := rest) hW (.inr rfl) (.inl rfl) hmr hone hm2
      refine ⟨_, _, _, hr, k1, k2, k3 hT, ?_, fun p => .none rfl⟩
      have := RelV.vec (g := g.addRow w.heap.size (newCap * i.size)) (i := g.n) (es := i.size) (off := 0) (n := m.length) (cap := newCap) (by simp [Gh.addRow]) (by omega) (by simp [Gh.addRow])
      have e1 : (g.addRow w.heap.size (newCap * i.size)).η g.n = w.heap.size := by simp [Gh.addRow]
      rw [e1] at this
      rw [hW.n]
      simpa using this
  · -- a row
    rename_i j es n
    split at hr
    case h_2 => cases hr
    rename_i cs hcs
    split at hr
    case isFalse => cases hr
    rename_i hc
    obtain ⟨rfl, hn, hb⟩ := hc
    cases hr
    have h2 : RelV g (.vec j i.size 0 n) (a.eval x) := hx
    generalize a.eval x = q at h2
    obtain ⟨c, et, r1, r2, r3, r4, r5, r6, r7⟩ := hW.obj j _ hcs
    have hcl : cs.length ≤ c.size := by have := r4.len; simp at this; omega
    have hjn : j < g.n := hW.n ▸ (List.getElem?_eq_some_iff.1 hcs).1
    -- the old cells
    have hold : (Builtin.firstCells i.size n q).run P w.drew = .ok ((c.toList.take cs.length).take (n * i.size)).toArray w.drew := by
      cases h2 with
      | vec0 =>
        rename_i ad
        cases ad with
        | none => simp [Builtin.firstCells]
        | some b => simp [Builtin.firstCells, loadCells, loadCellsFrom]
      | vec q1 q2 q3 =>
        have hin := ((cellsIn_row (w := w.drew) r1).take cs.length).take (n * i.size)
        have hl : ((c.toList.take cs.length).take (n * i.size)).length = n * i.size := by simp; omega
        have := run_loadCells_list (P := P) w.drew ⟨g.η j, 0 * i.size, none⟩ ((c.toList.take cs.length).take (n * i.size)) (fun k u hu => by rw [add_spot, Nat.zero_mul]; exact hin k u hu)
        rw [hl] at this
        exact this
    have hgrow : ∀ ad cap, q = .slice ad n cap → ¬ n + m.length ≤ cap → ∃ g' w' v, (Builtin.append_ #[ty, ty'] o.type #[q, a.eval y]).run P w = .ok v w' ∧ Ext d g g' w w' ∧ WInv g' (h.set j .dead ++ [.row (cs.take (n * i.size) ++ m.flatten.map DV.shed)]) w' ∧ RelT g' w' d t a.tmps ∧ RelV g' (.vec h.length i.size 0 (n + m.length)) v ∧ ∀ p, OwnAt g' w' p (.vec h.length i.size 0 (n + m.length)) v := by
      rintro ad cap rfl hc
      obtain ⟨newCap, rest, hn1, hn2, hr⟩ := run_append_grow (P := P) (ty := o.type) (ad := ad) hse hu hui hi (hrun w rfl).1 (hrun w.drew rfl).2 hold hc hb hzf
      have hl : ((c.toList.take cs.length).take (n * i.size)).length = n * i.size := by simp; omega
      have hm2 : newCap * i.size ≤ (((c.toList.take cs.length).take (n * i.size) ++ vs) ++ rest).length := by
        rw [List.length_append, List.length_append, hl, hvl, hn2, ← Nat.add_mul, ← Nat.add_mul]
        exact Nat.mul_le_mul_right _ (by omega)
      have hrel : RelL g (cs.take (n * i.size) ++ m.flatten) ((c.toList.take cs.length).take (n * i.size) ++ vs) := (r4.take _).append hmr
      have hone2 : ∀ v ∈ (c.toList.take cs.length).take (n * i.size) ++ vs, v.oneCell' = true := fun v hv => (List.mem_append.1 hv).elim (fun hv => r7 v (List.mem_of_mem_take hv)) (hone v)
      obtain ⟨k1, k2, k3⟩ := row_new (d := d) (e := e) (rest := rest) hW (.inr rfl) (.inr ⟨j, rfl⟩) hrel hone2 hm2
      have e2 : (cs.take (n * i.size) ++ m.flatten).map DV.shed = cs.take (n * i.size) ++ m.flatten.map DV.shed := by
        rw [List.map_append]
        congr 1
        refine (List.map_congr_left fun x hx => r5 x (List.mem_of_mem_take hx)).trans (List.map_id' _)
      rw [e2] at k2
      refine ⟨_, _, _, hr, k1, k2, k3 hT, ?_, fun p => .none rfl⟩
      have := RelV.vec (g := g.addRow w.heap.size (newCap * i.size)) (i := g.n) (es := i.size) (off := 0) (n := n + m.length) (cap := newCap) (by simp [Gh.addRow]) (by omega) (by simp [Gh.addRow])
      have e1 : (g.addRow w.heap.size (newCap * i.size)).η g.n = w.heap.size := by simp [Gh.addRow]
      rw [e1] at this
      rw [hW.n]
      simpa using this
    cases h2 with
    | vec0 =>
      rename_i ad
      by_cases hm0 : m = []
      · subst hm0
        have hvs : vs = [] := by simpa using hvl
        subst hvs
        have hr := run_append_none (P := P) (ty := o.type) (ad := ad) (n := 0) (cap := 0) hse hu hui hi (by simpa using (hrun w rfl).1) (by simpa using (hrun w rfl).2) (Nat.le_refl _)
        have ht := touch_same hW.pc (g.η j)
        have ht2 := touch_addRow (m := g.sz j) ht r3
        refine ⟨g.addRow (g.η j) (g.sz j), w, _, hr, ht2.ext (.inr (by rw [r2]; simp [Keep])), winv_row hW ht r3 (.inr ⟨j, r2, rfl⟩) ?_, ht2.relT (.inr ⟨fun s => by rw [r2]; simp, fun s => by rw [r2]; simp, fun s k => by rw [r2]; simp⟩) hT, .vec0, fun p => .none rfl⟩
        refine ⟨c, et, r1, by simp [Gh.addRow], r3, by simpa using RelL.nil _, by simp, r6, by simp⟩
      · exact hgrow ad 0 rfl (by have := List.length_pos_iff.2 hm0; omega)
    | vec q1 q2 q3 =>
      rename_i cap
      by_cases hc : n + m.length ≤ cap
      · obtain ⟨c', et', k1, k2, k3, k4, k5⟩ := appendV_room (d := d) hW hcs hjn q3 hmr hone hvl hn hc
        have hr := run_append_room (P := P) (ty := o.type) (off := 0 * i.size) hse hu hui hi (hrun w rfl).1 (hrun w rfl).2 hc k1 (by simpa using k2) hone
        simp only [Nat.zero_mul] at hr
        refine ⟨_, _, _, by simpa using hr, k3, k4, k5 hT, ?_, fun p => .none rfl⟩
        have := RelV.vec (g := g.addRow (g.η j) (g.sz j)) (i := g.n) (es := i.size) (off := 0) (n := n + m.length) (cap := cap) (by simp [Gh.addRow]) (by omega) (by simpa [Gh.addRow] using q3)
        have e1 : (g.addRow (g.η j) (g.sz j)).η g.n = g.η j := by simp [Gh.addRow]
        rw [e1] at this
        rw [hW.n]
        simpa using this
      · exact hgrow _ cap rfl hc
  · cases hr

theorem step_buildV (hT : RelT g w d t a.tmps) (hW : WInv g h w) {ty : TypeId} {n : Nat} {ps : Array (Nat × Operand)} (ho : o.op = .buildSlice ty n ps) {r : DV} {h' : DHeap} (hr : buildV P t h ty n ps = some (r, h')) : StepOut P o a g w d (putD t o.dst r) h' := by
  unfold buildV at hr
  split at hr
  case h_2 => cases hr
  rename_i e he
  split at hr
  case isFalse => cases hr
  rename_i hc
  obtain ⟨h1, h2, h3, h4⟩ := hc
  split at hr
  case isFalse => cases hr
  rename_i h5
  cases hr
  have hu : P.underlying ty = some (.slice e) := by
    unfold elemOfSlice at he; split at he
    · cases he; assumption
    · cases he
  have hlen : ps.toList.length = n := by have := congrArg List.length h1; simpa using this
  obtain ⟨z, hz⟩ := Option.isSome_iff_exists.1 h4
  obtain ⟨zv, hzv, _, _⟩ := zeroD_rel (g := g) (w := w) hz
  let zeros : List Value := ((Array.range (n * sz P e)).map ((if n * sz P e = 0 then #[] else zv.cells)[· % (if n * sz P e = 0 then #[] else zv.cells).size]!)).toList
  have hzl : zeros.length = ps.toList.length * sz P e := by simp [zeros]; rw [← hlen]; simp
  obtain ⟨ws, hw, hrel⟩ := rows_fill (P := P) (a := a) hT e ps.toList 0 [] [] zeros (by rw [h1, hlen, List.range_eq_range']) h5 (RelL.nil g) (by simp) hzl
  simp only [List.nil_append] at hw hrel
  have hes : ∀ r ∈ (ps.toList.map fun p => cellsD (opnd P e t p.2).shed), r.length = sz P e := fun r hr => by
    have := List.all_eq_true.1 h5 r hr
    simp at this; exact this.1
  have hone : ∀ u ∈ ws, u.oneCell' = true := relL_one hrel (by
    rw [List.all_eq_true]
    intro c hc
    rw [List.mem_flatten] at hc
    obtain ⟨r, hr, hcr⟩ := hc
    have := List.all_eq_true.1 h5 r hr
    simp only [Bool.and_eq_true] at this
    exact List.all_eq_true.1 this.2 c hcr)
  obtain ⟨k1, k2, k3⟩ := row_new (d := d) (e := e) (w0 := w) (us := ws) (rest := []) (h1 := h) (m := n * sz P e) hW (.inl rfl) (.inl rfl) hrel hone (by
    have l1 := hrel.len
    rw [List.append_nil, ← l1, flatten_len hes]
    simp [← hlen])
  rw [List.append_nil] at k1 k2 k3
  refine ⟨_, _, .slice (some ⟨w.heap.size, 0, none⟩) n n, .inl ?_, k1, k2, (k3 hT).put (dst := o.dst) (x := .vec h.length (sz P e) 0 n) (RelV.relP ?_) (fun s hs => .none rfl)⟩
  case refine_2 =>
    have := RelV.vec (g := g.addRow w.heap.size (n * sz P e)) (i := g.n) (es := sz P e) (off := 0) (n := n) (cap := n) (by simp [Gh.addRow]) (Nat.le_refl _) (by simp [Gh.addRow])
    have e1 : (g.addRow w.heap.size (n * sz P e)).η g.n = w.heap.size := by simp [Gh.addRow]
    rw [e1] at this
    rw [hW.n]
    simpa using this
  have hsz : (sizeOf e).run P w = .ok (sz P e) w := sz_run (by omega) w
  have hzr : (if n * sz P e = 0 then pure #[] else (do pure (← zeroValue e).cells : Sem (Array Value))).run P w = .ok (if n * sz P e = 0 then #[] else zv.cells) w := by
    split <;> simp [hzv]
  have e2 : (ps.map fun (x : Nat × Operand) => match x with | (i, x) => (i, a.eval x)).toList = ps.toList.map fun p => (p.1, a.eval p.2) := by simp
  have hlim : ¬ (n * sz P e > 2 ^ 24) := by omega
  have hz2 : zeros.toArray = (Array.range (n * sz P e)).map ((if n * sz P e = 0 then #[] else zv.cells)[· % (if n * sz P e = 0 then #[] else zv.cells).size]!) := by
    simp only [zeros, Array.toArray_toList]
  rw [hz2] at hw
  simp only [execOp, ho, Instr.buildSlice, Sem.run_bind, run_underlying hu, Result.andThen_ok, hsz]
  rw [if_neg hlim]
  by_cases hn0 : n * sz P e = 0
  · rw [if_pos hn0]
    rw [if_pos hn0] at hw
    simp only [Sem.run_bind, Sem.run_pure, Result.andThen_ok]
    rw [e2, hw]
    simp [newRow]
  · rw [if_neg hn0]
    rw [if_neg hn0] at hw
    simp only [Sem.run_bind, hzv, Sem.run_pure, Result.andThen_ok]
    rw [e2, hw]
    simp [newRow]

theorem rep_get {α : Type} {l : List α} : ∀ (n k : Nat), k < n * l.length → (List.replicate n l).flatten[k]? = l[k % l.length]?
  | 0, k, h => by simp at h
  | n + 1, k, h => by
    rw [List.replicate_succ, List.flatten_cons, List.getElem?_append]
    split
    · rename_i hk
      rw [Nat.mod_eq_of_lt hk]
    · rename_i hk
      rw [Nat.succ_mul] at h
      rw [rep_get n _ (by omega), Nat.mod_eq_sub_mod (by omega : k ≥ l.length)]

theorem step_makeV (hT : RelT g w d t a.tmps) (hW : WInv g h w) {ty : TypeId} {l c : Operand} (ho : o.op = .makeSlice ty l c) {r : DV} {h' : DHeap} (hr : makeV P ty h (opnd P o.type t l) (opnd P o.type t c) = some (r, h')) : StepOut P o a g w d (putD t o.dst r) h' := by
  have hl := opnd_rel (P := P) hT o.type l
  have hc := opnd_rel (P := P) hT o.type c
  generalize opnd P o.type t l = lv at hl hr
  generalize opnd P o.type t c = cv at hc hr
  unfold makeV at hr
  split at hr
  case h_2 => cases hr
  rename_i e he
  have hse : P.underlying ty = some (.slice e) := by
    unfold elemOfSlice at he
    split at he
    · cases he; assumption
    · cases he
  split at hr
  case h_2 => cases hr
  rename_i z i n m hz hi hln hcm
  split at hr
  case isFalse => cases hr
  rename_i hcond
  obtain ⟨hi0, hzf, rfl, hn0, hb, hzl, hzc⟩ := hcond
  cases hr
  obtain ⟨k1, rfl⟩ := intD_spec hln
  obtain ⟨k2, rfl⟩ := intD_spec hcm
  have el : a.eval l = .int k1 n := relP_sc hl
  have ec : a.eval c = .int k2 n := relP_sc hc
  obtain ⟨zv, hzv, hzr, _⟩ := zeroD_rel (g := g) (w := w) hz
  obtain ⟨hcr, hcone⟩ := cells_rel hzr.shed hzc
  have hzs : zv.cells.size = i.size := by have := hcr.len; rw [hzl] at this; simpa using this.symm
  unfold maxLenD at hb
  have hb1 : n.toNat * i.bytes ≤ 137438953472 := Nat.le_trans (Nat.mul_le_mul_left _ (by omega)) hb
  have hb2 : n.toNat ≤ 137438953472 := Nat.le_trans (Nat.le_mul_of_pos_right _ (by omega)) hb
  obtain ⟨k, rfl⟩ : ∃ k : Nat, n = k := ⟨n.toNat, by omega⟩
  simp only [Int.toNat_natCast] at *
  have hwrap : IntKind.i64.wrap (k : Int) = k := by
    unfold IntKind.wrap
    simp [IntKind.bits, IntKind.signed]
    omega
  -- the cells
  let us : List Value := ((Array.range (k * i.size)).map ((if k * i.size = 0 then #[] else zv.cells)[· % (if k * i.size = 0 then #[] else zv.cells).size]!)).toList
  have hus : us.length = k * i.size := by simp [us]
  have hget : ∀ j, j < k * i.size → us[j]? = zv.cells.toList[j % i.size]? := by
    intro j hj
    have hne : ¬ k * i.size = 0 := by omega
    have hm : j % i.size < zv.cells.size := by rw [hzs]; exact Nat.mod_lt _ hi0
    simp only [us, if_neg hne]
    simp [hj, hzs, hm]
    rw [getElem!_pos zv.cells (j % i.size) hm, Array.getElem?_eq_getElem hm]
  have hrel : RelL g (List.replicate k (cellsD z.shed)).flatten us := by
    refine ⟨by rw [hus]; simp [hzl], fun j d v hd hv => ?_⟩
    have hj : j < k * i.size := by rw [← hus]; exact (List.getElem?_eq_some_iff.1 hv).1
    rw [hget j hj] at hv
    rw [rep_get _ _ (by rw [hzl]; exact hj), hzl] at hd
    exact hcr.at_ _ d v hd hv
  have hone : ∀ v ∈ us, v.oneCell' = true := by
    intro v hv
    obtain ⟨j, hj, rfl⟩ := List.getElem_of_mem hv
    have h1 := hget j (by omega)
    rw [List.getElem?_eq_getElem hj] at h1
    exact hcone _ (List.mem_of_getElem? h1.symm)
  obtain ⟨q1, q2, q3⟩ := row_new (d := d) (e := e) (w0 := w) (us := us) (rest := []) (h1 := h) (m := k * i.size) hW (.inl rfl) (.inl rfl) hrel hone (by simp [hus])
  rw [List.append_nil] at q1 q2 q3
  have hshed : (List.replicate k (cellsD z.shed)).flatten.map DV.shed = (List.replicate k (cellsD z.shed)).flatten := by
    refine (List.map_congr_left fun x hx => ?_).trans (List.map_id' _)
    rw [List.mem_flatten] at hx
    obtain ⟨r, hr, hx⟩ := hx
    rw [List.mem_replicate] at hr
    rw [hr.2] at hx
    cases z with
    | agg cs => simp [DV.shed, cellsD] at hx; obtain ⟨y, _, rfl⟩ := hx; exact DV.shed_shed y
    | tup cs =>
      obtain ⟨ds, e⟩ := shed_tup_or cs
      rw [e] at hx
      simp [cellsD] at hx
      rw [hx, ← e, DV.shed_shed]
    | _ => simp [DV.shed, cellsD] at hx; subst hx; rfl
  rw [hshed] at q2
  refine ⟨_, _, .slice (some ⟨w.heap.size, 0, none⟩) k k, .inl ?_, q1, q2, (q3 hT).put (dst := o.dst) (x := .vec h.length i.size 0 k) (RelV.relP ?_) (fun s hs => .none rfl)⟩
  · have hsz : ∀ w, (sizeOf e).run P w = .ok i.size w := fun w => by simp [sizeOf, typeInfo, hi]
    have hti : ∀ w, (typeInfo e).run P w = .ok i w := fun w => by simp [typeInfo, hi]
    have c1 : (i.bytes : Int) * (k : Int) ≤ 137438953472 := by
      rw [Nat.mul_comm] at hb1
      have := Int.ofNat_le.2 hb1
      rw [Int.natCast_mul] at this
      exact this
    have c2 : ¬ ((k : Int) < 0) := by omega
    have hz2 : us.toArray = (Array.range (k * i.size)).map ((if k * i.size = 0 then #[] else zv.cells)[· % (if k * i.size = 0 then #[] else zv.cells).size]!) := by
      simp only [us, Array.toArray_toList]
    simp only [execOp, ho, el, ec, Instr.makeSlice]
    by_cases hn : k * i.size = 0
    · rw [if_pos hn] at hz2
      simp [run_underlying hse, asInt, asIntOf, hti, hsz, hwrap, c2, askRoom, hn, newRow, hz2]
      intro hbad; omega
    · rw [if_neg hn] at hz2
      simp [run_underlying hse, asInt, asIntOf, hti, hsz, hwrap, c2, askRoom, hn, newRow, hz2, hzv]
      intro hbad; omega
  · have := RelV.vec (g := g.addRow w.heap.size (k * i.size)) (i := g.n) (es := i.size) (off := 0) (n := k) (cap := k) (by simp [Gh.addRow]) (Nat.le_refl _) (by simp [Gh.addRow])
    have e1 : (g.addRow w.heap.size (k * i.size)).η g.n = w.heap.size := by simp [Gh.addRow]
    rw [e1] at this
    rw [hW.n]
    simpa using this

theorem mixZ_shed (offs : List Nat) : ∀ (i : Nat) (ds : List DV) (vs : List Value), ∀ c ∈ mixZ offs i ds vs, c.shed = c
  | i, d :: ds, v :: vs, c, hc => by
    simp only [mixZ, List.mem_cons] at hc
    rcases hc with rfl | hc
    · split
      · rfl
      · exact DV.shed_shed d
    · exact mixZ_shed offs (i + 1) ds vs c hc
  | _, [], _, c, hc => by simp [mixZ] at hc
  | _, _ :: _, [], c, hc => by simp [mixZ] at hc
theorem zeroR_shed {offs : List Nat} {ty : TypeId} {z : List DV} (hz : zeroR P offs ty = some z) : ∀ c ∈ z, c.shed = c := by
  unfold zeroR at hz
  split at hz
  · split at hz
    · split at hz
      · cases hz
        exact mixZ_shed _ _ _ _
      · cases hz
    · cases hz
  · cases hz
theorem step_allocR {C : Cfg} {f : FuncId} (hT : RelT g w d t a.tmps) (hW : WInv g h w) {ty : TypeId} (ho : o.op = .alloc ty) {offs : List Nat} {z : List DV} (hz : zeroR P offs ty = some z) {t' : List DV} {h' : DHeap}
    (hn : newVar C f o.dst t h z = some (t', h')) : StepOut P o a g w d t' h' := by
  obtain ⟨us, hv, hr⟩ := zeroR_rel (g := g) hz
  exact newVar_sound hT hW (vs := us.toArray) (by simpa using hr) (own_of_shed (zeroR_shed hz)) hn (e := ty) (by simp [execOp, ho, Instr.alloc, Go.newVar, newRow, hv, Value.cells])
theorem step_rawnil (hT : RelT g w d t a.tmps) (hW : WInv g h w) {y : Operand} (ho : o.op = .move y ∨ o.op = .assign y) (hy : rawNil y = true) : StepOut P o a g w d (putD t o.dst (.sc (.slice none 0 0))) h := by
  have : y = .const (.slice none 0 0) := by
    unfold rawNil at hy
    split at hy
    · rfl
    · cases hy
  subst this
  refine CalmOut.step hT ⟨g, w, .slice none 0 0, ?_, .refl _ _ _, hW, RelV.relP (.sc _), fun p => .none rfl⟩
  rcases ho with ho | ho <;> simp [execOp, ho, Act.eval]
end
end Go.DS

/-
  Map stores, deletes.
-/
namespace Go.DS
set_option linter.unusedSectionVars false
variable [M : Mono]
open Go
set_option linter.unusedVariables false

section
variable {P : Program} {o : Oper} {a : Act} {g : Gh} {w : World} {h : DHeap} {d : Nat} {t : List DV} {x : DV}

theorem keyOK_plain {kt : TypeId} {k : DV} (hko : keyOK P kt k = true) : k.plain = true := by
  unfold keyOK at hko
  split at hko <;> first | (cases hko; done) | simp_all [DV.plain, DV.isBox, DV.isPath]

theorem RelE.set {es : List (DV × DV)} {ents : List MapEntry} (hr : RelE g es ents) (i : Nat) {e : DV × DV} {m : MapEntry} (h1 : RelV g e.1 m.key) (h2 : RelV g e.2 m.val) : RelE g (es.set i e) (ents.set i m) :=
  ⟨by simp [hr.len], fun k d u hd hu => by
    rw [List.getElem?_set] at hd hu
    split at hd
    · rename_i hi
      rw [if_pos hi] at hu
      split at hd
      · rename_i hl; rw [if_pos (hr.len ▸ hl)] at hu; cases hd; cases hu; exact ⟨h1, h2⟩
      · cases hd
    · rename_i hi; rw [if_neg hi] at hu; exact hr.at_ k d u hd hu⟩

theorem RelE.snoc {es : List (DV × DV)} {ents : List MapEntry} (hr : RelE g es ents) {e : DV × DV} {m : MapEntry} (h1 : RelV g e.1 m.key) (h2 : RelV g e.2 m.val) : RelE g (es ++ [e]) (ents ++ [m]) :=
  ⟨by simp [hr.len], fun k d u hd hu => by
    rw [List.getElem?_append] at hd hu
    rw [hr.len] at hd
    split at hd
    · rename_i hk; rw [if_pos hk] at hu; exact hr.at_ k d u hd hu
    · rename_i hk
      rw [if_neg hk] at hu
      rw [List.getElem?_singleton] at hd hu
      split at hd
      · rename_i h0; rw [if_pos h0] at hu; cases hd; cases hu; exact ⟨h1, h2⟩
      · cases hd⟩

theorem RelE.erase {es : List (DV × DV)} {ents : List MapEntry} (hr : RelE g es ents) (i : Nat) : RelE g (es.eraseIdx i) (ents.eraseIdx i) :=
  ⟨by simp only [List.length_eraseIdx, hr.len], fun k d u hd hu => by
    rw [List.getElem?_eraseIdx] at hd hu
    split at hd
    · rename_i hk; rw [if_pos hk] at hu; exact hr.at_ k d u hd hu
    · rename_i hk; rw [if_neg hk] at hu; exact hr.at_ _ d u hd hu⟩

/-- An object that is a map holds something else from now on. -/
theorem map_set (hT : RelT g w d t a.tmps) (hW : WInv g h w) {i : Nat} {es es' : List (DV × DV)} (hi : h[i]? = some (.map es)) {ents : Array MapEntry} {clk : Nat} (hr : RelE g es' ents.toList) (hst : Stamped ents.toList clk) :
    Ext d g g w { w with heap := w.heap.setIfInBounds (g.η i) (.map ents clk) } ∧ WInv g (h.set i (.map es')) { w with heap := w.heap.setIfInBounds (g.η i) (.map ents clk) } ∧
      RelT g { w with heap := w.heap.setIfInBounds (g.η i) (.map ents clk) } d t a.tmps := by
  obtain ⟨ents0, clk0, h1, h2, h3, h4, _⟩ := hW.obj i _ hi
  have htouch := touch_setObj (w := w) h3 (.map ents clk)
  refine ⟨htouch.ext (.inr (by rw [h2]; simp [Keep])), ?_, htouch.relT (.inr ⟨fun s => by rw [h2]; simp, fun s => by rw [h2]; simp, fun s k => by rw [h2]; simp⟩) hT⟩
  refine winv_setObj hW.n (htouch.pc hW.pc) ⟨ents, clk, ?_, h2, h3, hr, hst⟩ (fun j o' hj hne => ?_)
  · have := lt_of_heap h1
    show (w.heap.setIfInBounds (g.η i) (.map ents clk))[g.η i]? = _
    rw [Array.getElem?_setIfInBounds_self_of_lt this]
  · exact htouch.relO (hW.n ▸ (List.getElem?_eq_some_iff.1 hj).1) (.inr ⟨by rw [h2]; simp; exact Ne.symm hne, fun k => by rw [h2]; simp⟩) (hW.obj j o' hj)

theorem run_setObj {b : Nat} {ob : Obj} {ents : Array MapEntry} {clk : Nat} (hb : w.heap[b]? = some (.map ents clk)) : (setObj b ob).run P w = .ok () { w with heap := w.heap.setIfInBounds b ob } := by
  simp [setObj, Sem.run, hb]

theorem toList_modify {α : Type} (l : Array α) (i : Nat) (f : α → α) (y : α) (hy : l.toList[i]? = some y) : (l.modify i f).toList = l.toList.set i (f y) := by
  apply List.ext_getElem?
  intro k
  rw [Array.toList_modify, List.getElem?_modify, List.getElem?_set]
  split
  · rename_i hk
    subst hk
    rw [hy, if_pos (List.getElem?_eq_some_iff.1 hy).1]; rfl
  · simp

theorem step_mapUpdate (hT : RelT g w d t a.tmps) (hW : WInv g h w) {ty kt et : TypeId} {m k v : Operand} (ho : o.op = .mapUpdate ty m k v ∨ o.op = .insert ty m k v) (hu : P.underlying ty = some (.map kt et)) {i : Nat}
    (hm : opnd P ty t m = .mp i) {ks : List Nat} (hk : flatK P 8 kt = some ks) (hko : keyOK P kt (opnd P kt t k) = true) {es es' : List (DV × DV)} (hi : h[i]? = some (.map es)) (hv : (opnd P et t v).shed.plain = true)
    (hs : setKey ks (opnd P kt t k) (opnd P et t v).shed es = some es') : StepOut P o a g w d (putD t o.dst .junk) (h.set i (.map es')) := by
  have hmr := opnd_rel (P := P) hT ty m
  rw [hm] at hmr
  generalize hmv : a.eval m = mv at hmr
  cases hmr with
  | mp hin =>
  obtain ⟨ents, clk, h1, h2, h3, h4, hst⟩ := hW.obj i _ hi
  have hkr := opnd_rel (P := P) hT kt k
  rw [RelP.of_plain (keyOK_plain hko)] at hkr
  have hvr := (opnd_rel (P := P) hT et v).shed
  rw [RelP.of_plain hv] at hvr
  obtain ⟨q, xs, hq, hxl, hka⟩ := keyAt (P := P) hk hko hkr
  obtain ⟨q', hq', hq1⟩ := flatK_tinfo hk
  have hqq : q' = q := by rw [hq] at hq'; cases hq'; rfl
  subst hqq
  have hck : (Instr.checkKey false 10000 kt (a.eval k)).run P w = .ok () w := by
    rw [hka.val]; exact checkKey_run _ 8 kt ks q' xs 10000 hk hq hxl (by omega)
  have hfk := findKey_run (w := w) hk hko hkr h4
  have hexec : ∀ w', (Instr.mapUpdate ty (.map (some (g.η i))) (a.eval k) (a.eval v)).run P w = .ok () w' → (execOp a.eval o).run P w = .ok .skip w' := fun w' hr => by
    rcases ho with ho | ho <;> simp [execOp, ho, hmv, hr]
  rcases setKey_spec hs with ⟨j, hf, rfl⟩ | ⟨hn, rfl⟩
  · obtain ⟨me, hme, hrun⟩ := hfk.1 j hf
    obtain ⟨⟨e, he, heq⟩, _⟩ := hf
    have hsame : Instr.sameBits 10000 me.key (a.eval k) = true := by
      obtain ⟨ys, hy, hev⟩ := hka.eq e.1 true heq g me.key (h4.at_ j e me he hme).1
      rw [hy, hka.val]
      have hsym : eqV ks ys xs = some true := by
        have : ∀ (ks : List Nat) (x y : List Value), eqV ks x y = some true → eqV ks y x = some true := by
          intro ks
          induction ks with
          | nil => intro x y h; cases x <;> cases y <;> simp [eqV] at h ⊢
          | cons k ks ih =>
            intro x y h
            cases x <;> cases y <;> simp only [eqV] at h ⊢ <;> try (cases h)
            rename_i a x b y
            split at h
            · rename_i p q hp hq
              simp at h
              obtain ⟨rfl, rfl⟩ := h
              have h1 : eq1 k b a = some true := by
                unfold eq1 at hp ⊢
                split at hp
                · rename_i k1 a1 k2 a2
                  by_cases hk : k1 = k2
                  · subst hk; simp at hp; subst hp; simp
                  · simp [hk] at hp
                · simp at hp; subst hp; simp
                · simp only [Option.some.injEq] at hp ⊢
                  rw [beq_toListBytes] at hp ⊢
                  simp only [beq_iff_eq] at hp ⊢
                  exact hp.symm
                · cases hp
              rw [h1, ih x y hq]; rfl
            · cases h
        exact this ks xs ys hev
      exact sameBits_refl 9998 ks q' ys xs hq1 hsym
    have hstay : (Instr.keyThatStays (((ents[j]?).map (·.key)).getD (a.eval k)) (a.eval k)).run P w = .ok (a.eval k) w := by
      have : ents[j]? = some me := by simpa using hme
      simp [Instr.keyThatStays, this, hsame]
    have hnew : RelE g (es.set j (opnd P kt t k, (opnd P et t v).shed)) (ents.modify j fun e => { e with key := a.eval k, val := a.eval v }).toList := by
      rw [toList_modify ents j _ me hme]
      exact h4.set j hkr hvr
    obtain ⟨q1, q2, q3⟩ := map_set (clk := clk) hT hW hi hnew (by rw [toList_modify ents j _ me hme]; exact hst.set hme rfl)
    refine ⟨g, _, undef, .inr ⟨hexec _ ?_, rfl⟩, q1, q2, q3.put_junk⟩
    simp only [Instr.mapUpdate, Sem.run_bind, run_underlying hu, Result.andThen_ok, run_getObj_map h1, hck, hrun, hstay]
    exact run_setObj h1
  · have hrun := hfk.2 hn
    have hnew : RelE g (es ++ [(opnd P kt t k, (opnd P et t v).shed)]) (ents.push { key := a.eval k, val := a.eval v, born := clk }).toList := by
      rw [Array.toList_push]
      exact h4.snoc hkr hvr
    obtain ⟨q1, q2, q3⟩ := map_set (clk := clk + 1) hT hW hi hnew (by rw [Array.toList_push]; exact hst.push rfl)
    refine ⟨g, _, undef, .inr ⟨hexec _ ?_, rfl⟩, q1, q2, q3.put_junk⟩
    simp only [Instr.mapUpdate, Sem.run_bind, run_underlying hu, Result.andThen_ok, run_getObj_map h1, hck, hrun]
    exact run_setObj h1

theorem step_delete (hT : RelT g w d t a.tmps) (hW : WInv g h w) {args : Array Operand} {argTypes : Array TypeId} (ho : o.op = .call { callee := .builtin .delete, args, argTypes }) {m k : Operand} {ty kt et : TypeId}
    (ha0 : args[0]? = some m) (ha1 : args[1]? = some k) (hsz : args.size = 2) (ht : argTypes[0]? = some ty) (hu : P.underlying ty = some (.map kt et)) {i : Nat}
    (hm : opnd P ty t m = .mp i) {ks : List Nat} (hk : flatK P 8 kt = some ks) (hko : keyOK P kt (opnd P kt t k) = true) {es es' : List (DV × DV)} (hi : h[i]? = some (.map es))
    (hs : delKey ks (opnd P kt t k) es = some es') : StepOut P o a g w d (putD t o.dst .junk) (h.set i (.map es')) := by
  have hargs := args_two ha0 ha1 hsz
  subst hargs
  have hmr := opnd_rel (P := P) hT ty m
  rw [hm] at hmr
  generalize hmv : a.eval m = mv at hmr
  cases hmr with
  | mp hin =>
  obtain ⟨ents, clk, h1, h2, h3, h4, hst⟩ := hW.obj i _ hi
  have hkr := opnd_rel (P := P) hT kt k
  rw [RelP.of_plain (keyOK_plain hko)] at hkr
  obtain ⟨q, xs, hq, hxl, hka⟩ := keyAt (P := P) hk hko hkr
  have hck : (Instr.checkKey ents.isEmpty 10000 kt (a.eval k)).run P w = .ok () w := by
    rw [hka.val]; exact checkKey_run _ 8 kt ks q xs 10000 hk hq hxl (by omega)
  have hfk := findKey_run (w := w) hk hko hkr h4
  rcases delKey_spec hs with ⟨j, hf, rfl⟩ | ⟨hn, rfl⟩
  · obtain ⟨me, hme, hrun⟩ := hfk.1 j hf
    have hjl : j < ents.size := by have := (List.getElem?_eq_some_iff.1 hme).1; simpa using this
    have hnew : RelE g (es.eraseIdx j) (ents.eraseIdxIfInBounds j).toList := by
      have : (ents.eraseIdxIfInBounds j).toList = ents.toList.eraseIdx j := by
        simp [Array.eraseIdxIfInBounds, hjl]
      rw [this]; exact h4.erase j
    obtain ⟨q1, q2, q3⟩ := map_set (clk := clk) hT hW hi hnew (by
      have : (ents.eraseIdxIfInBounds j).toList = ents.toList.eraseIdx j := by
        simp [Array.eraseIdxIfInBounds, hjl]
      rw [this]; exact hst.erase j)
    refine ⟨g, _, .tuple #[], .inl ?_, q1, q2, q3.put_junk⟩
    simp [execOp, ho, resolve, invoke, builtin, Builtin.delete_, ht, hmv, run_underlying hu, run_getObj_map h1, hck, hrun, run_setObj h1]
  · have hrun := hfk.2 hn
    have hnew : RelE g es' ents.toList := h4
    obtain ⟨q1, q2, q3⟩ := map_set (clk := clk) hT hW hi hnew hst
    refine ⟨g, _, .tuple #[], .inl ?_, q1, q2, q3.put_junk⟩
    simp [execOp, ho, resolve, invoke, builtin, Builtin.delete_, ht, hmv, run_underlying hu, run_getObj_map h1, hck, hrun, run_setObj h1]
end
end Go.DS

/-
  Calls, regions in the order of the text, code.
-/
namespace Go.DS
set_option linter.unusedSectionVars false
variable [M : Mono]
open Go
set_option linter.unusedVariables false

/-- What it says that a call comes to a clean value and a clean heap. -/
def CallOK (P : Program) (k : FuncId) (args : List DV) (h : DHeap) (r : DV) (h' : DHeap) : Prop :=
  ∀ (d : Nat) (g : Gh) (w : World) (vs : Array Value), WInv g h w → RelL g args vs.toList →
    Calls P k vs w fun e w' => ∃ g' v s, e = .returned v ∧ Ext d g g' w w' ∧ WInv g' h' w' ∧ RelV g' r v ∧ OwnAt g' w' (.ownSlot d s) r v

def CallS (P : Program) (call : FuncId → List DV → DHeap → Option (DV × DHeap)) : Prop := ∀ k args h r h', call k args h = some (r, h') → CallOK P k args h r h'

/-- What follows an operation, or a piece of code. -/
def Next (d : Nat) (g : Gh) (w : World) (a : Act) (t' : List DV) (h' : DHeap) (K : Act → World → Prop) : Prop :=
  ∀ g' a' w', Ext d g g' w w' → WInv g' h' w' → RelT g' w' d t' a'.tmps → a'.defers = a.defers → K a' w'

section
variable {P : Program} {C : Cfg} {f : FuncId} {call : FuncId → List DV → DHeap → Option (DV × DHeap)} {o : Oper} {a : Act} {g : Gh} {w : World} {h : DHeap} {d : Nat} {t : List DV} {x : DV}

theorem put_defers (a : Act) (dst : Option Tmp) (v : Value) : (a.put dst v).defers = a.defers := by cases dst <;> rfl

theorem StepOut.wp {t' : List DV} {h' : DHeap} (hs : StepOut P o a g w d t' h') {K : Act → World → Prop} {Q : Exit → Act → World → Prop} (hk : Next d g w a t' h' K) : o.wp P a w K Q := by
  obtain ⟨g', w', v, hr, he, hW, hT⟩ := hs
  unfold Oper.wp
  rcases hr with hr | ⟨hr, rfl⟩
  · rw [hr]; exact hk g' _ w' he hW hT (put_defers _ _ _)
  · rw [hr]; exact hk g' _ w' he hW hT (put_defers _ _ _)

theorem arg_rel (hT : RelT g w d t a.tmps) (raw : Bool) (ty : TypeId) (x : Operand) (hp : (argD P raw t ty x).plain = true) : RelV g (argD P raw t ty x) (a.eval x) := by
  unfold argD at hp ⊢
  split at hp
  · rename_i h1
    rw [if_pos h1]
    simp only [Bool.and_eq_true] at h1
    have : x = .const (.slice none 0 0) := by
      have h2 := h1.2
      unfold rawNil at h2
      split at h2
      · rfl
      · cases h2
    subst this
    exact .sc _
  · rename_i h1
    rw [if_neg h1]
    have h2 := (opnd_rel (P := P) hT ty x).shed
    rwa [RelP.of_plain hp] at h2
theorem args_rel (hT : RelT g w d t a.tmps) (raw : Bool) : ∀ (xs : List Operand) (tys : List TypeId), (argsD P raw t xs tys).all DV.plain = true → RelL g (argsD P raw t xs tys) (xs.map a.eval)
  | [], tys, _ => by cases tys <;> exact RelL.nil g
  | x :: xs, [], hp => by
    simp only [argsD, List.all_cons, Bool.and_eq_true] at hp
    exact .cons (arg_rel hT raw 0 x hp.1) (args_rel hT raw xs [] hp.2)
  | x :: xs, ty :: tys, hp => by
    simp only [argsD, List.all_cons, Bool.and_eq_true] at hp
    exact .cons (arg_rel hT raw ty x hp.1) (args_rel hT raw xs tys hp.2)

theorem fn_inv {fn : Fn} {fs cs : List DV} {v : Value} (hr : RelV g (.fn fn fs cs) v) : ∃ gs ds : List Value, v = .func fn gs.toArray ds.toArray ∧ RelL g fs gs ∧ RelL g cs ds := by
  cases hr with
  | fn h1 h2 h3 h4 => exact ⟨_, _, rfl, ⟨h1, h2⟩, ⟨h3, h4⟩⟩

/-- What comes back of a call is put into its slot. -/
theorem ret_put {g' : Gh} {w' : World} (hE : Ext (d + 1) g g' w w') (hT : RelT g w d t a.tmps) (hW : WInv g' h w') {r : DV} {v : Value} {s : Nat} (hr : RelV g' r v) (ho : OwnAt g' w' (.ownSlot (d + 1) s) r v) (dst : Option Tmp) :
    ∃ g'', Ext d g g'' w w' ∧ WInv g'' h w' ∧ RelT g'' w' d (putD t dst r) (a.put dst v).tmps := by
  have hT' := hE.relT (Nat.lt_succ_self d) hT
  have hE' := hE.mono (Nat.le_succ d)
  by_cases hown : ∃ es l ad cap, own1 r = some (es, l) ∧ hdr1 r v = some (ad, cap) ∧ l.length < cap
  · obtain ⟨es, l, ad, cap, e1, e2, hlt⟩ := hown
    obtain ⟨b, off, c, et, ha, hk, hh, hsz, hpc⟩ := ho es l ad cap e1 e2 hlt
    cases dst with
    | none => exact ⟨g', hE', hW, hT'⟩
    | some s' =>
      have htouch := touch_rekind hW.pc b (.ownSlot d s')
      have hne : ∀ s, g'.kind b ≠ .ownSlot d s := fun s => by rw [hk]; simp
      refine ⟨g'.rekind b (.ownSlot d s'), hE'.trans (htouch.ext (.inr (by rw [hk]; simp [Keep]))), htouch.winv rfl (.inr ⟨fun i => by rw [hk]; simp, fun i k => by rw [hk]; simp⟩) hW, ?_⟩
      have hT'' := htouch.relT (d := d) (.inr ⟨fun s => by rw [hk]; simp, hne, fun s k => by rw [hk]; simp⟩) hT'
      refine hT''.put (hr.mono htouch.le).relP (fun s'' hs => ?_)
      cases hs
      intro es' l' ad' cap' f1 f2 f3
      rw [e1] at f1; cases f1
      rw [e2] at f2; cases f2
      exact ⟨b, off, c, et, ha, by simp [Gh.rekind], hh, hsz, hpc⟩
  · exact ⟨g', hE', hW, hT'.put hr.relP (fun s'' hs es' l' ad' cap' f1 f2 f3 => (hown ⟨es', l', ad', cap', f1, f2, f3⟩).elim)⟩

theorem call_wp (hcall : CallS P call) (hT : RelT g w d t a.tmps) (hW : WInv g h w) {args : Array Operand} {argTypes : Array TypeId} {fv : Operand} (ho : o.op = .call { callee := .value fv, args, argTypes }) {k : FuncId} {first cap : List DV}
    (hf : opnd P 0 t fv = .fn (.func k) first cap) (hk : calleeOK P k = true) (hp : (argsD P (C.ext k).isSome t args.toList argTypes.toList).all DV.plain = true) {r : DV} {h' : DHeap}
    (hc : call k (first ++ argsD P (C.ext k).isSome t args.toList argTypes.toList ++ cap) h = some (r, h')) {K : Act → World → Prop} {Q : Exit → Act → World → Prop} (hn : Next d g w a (putD t o.dst r) h' K) : o.wp P a w K Q := by
  have hfr := opnd_rel (P := P) hT 0 fv
  rw [hf] at hfr
  obtain ⟨gs, ds, hfv, h1, h2⟩ := fn_inv hfr
  have hargs := args_rel hT (C.ext k).isSome args.toList argTypes.toList hp
  unfold calleeOK at hk
  split at hk
  · rename_i fn hfn
    simp only [Bool.and_eq_true, Bool.not_eq_true'] at hk
    have hb : ¬ fn.body = none := by intro e; simp [e] at hk
    have hrun : (execOp a.eval o).run P w = .ok (.enter k (gs.toArray ++ args.map a.eval ++ ds.toArray)) w := by
      have hne : ¬ (fn.name = "runtime.NumGoroutine") := by simpa using hk.2
      simp [execOp, ho, resolve, hfv, Deferred.ofValue, invoke, callFunc, hfn, hb, hne]
    unfold Oper.wp
    rw [hrun]
    simp only [Oper.upon]
    have hrel : RelL g (first ++ argsD P (C.ext k).isSome t args.toList argTypes.toList ++ cap) (gs.toArray ++ args.map a.eval ++ ds.toArray).toList := by
      have := (h1.append hargs).append h2
      simpa using this
    refine (hcall _ _ _ _ _ hc (d + 1) g w _ hW hrel).mono ?_
    rintro e w' ⟨g', v, s, rfl, hE, hW', hr, hown⟩
    obtain ⟨g'', q1, q2, q3⟩ := ret_put (a := a) hE hT hW' hr hown o.dst
    exact hn g'' _ w' q1 q2 q3 (put_defers _ _ _)
  · cases hk
end
end Go.DS

/-
  One operation; a list of operations.
-/
namespace Go.DS
set_option linter.unusedSectionVars false
variable [M : Mono]
open Go
set_option linter.unusedVariables false

section
variable {P : Program} {C : Cfg} {f : FuncId} {call : FuncId → List DV → DHeap → Option (DV × DHeap)} {o : Oper} {a : Act} {g : Gh} {w : World} {h : DHeap} {d : Nat} {t : List DV}

theorem op_sound (hcall : CallS P call) (hT : RelT g w d t a.tmps) (hW : WInv g h w) {t' : List DV} {h' : DHeap} (hx : opD P C f call o t h = some (t', h'))
    {K : Act → World → Prop} {Q : Exit → Act → World → Prop} (hn : Next d g w a t' h' K) : o.wp P a w K Q := by
  unfold opD at hx
  split at hx
  · rename_i ty x ho
    exact (step_box hT hW ho hx).wp hn
  · rename_i ty ho
    split at hx
    · split at hx
      · rename_i z hz
        exact (step_allocR hT hW ho hz hx).wp hn
      · cases hx
    · split at hx
      · rename_i z hz
        exact (step_alloc hT hW ho hz hx).wp hn
      · cases hx
  · rename_i ty ad x ho
    split at hx
    rename_i y t1 hy
    split at hx
    · rename_i q n hi
      split at hx
      · rename_i hl
        split at hx
        · rename_i t2 h2 hs
          cases hx
          exact (step_store hT hW ho hy hi hl hs).wp hn
        · cases hx
      · cases hx
    · cases hx
  · rename_i args argTypes ho
    split at hx
    · rename_i x y ty ty' h0 h1 h2 h3 hs
      split at hx
      · cases hx
      · cases hx
      · rename_i u hu hnu
        split at hx
        · split at hx
          · rename_i s r h2' hd hr
            cases hx
            exact (step_appendV hT hW ho h0 h1 hs h2 h3 hnu (fun k e => hu k e) hd hr).wp hn
          · cases hx
        split at hx
        · rename_i q t1 s hq hd
          split at hx
          · rename_i r hr
            cases hx
            exact (step_append hT hW ho h0 h1 hs h2 h3 hnu (fun k e => hu k e) hq hd hr).wp hn
          · cases hx
        · cases hx
    · cases hx
  · rename_i args argTypes ho
    split at hx
    · rename_i m k ty h0 h1 h2 hs
      split at hx
      · rename_i kt et i hu hm
        split at hx
        · rename_i ks es hk hko hi
          split at hx
          · rename_i es' hes
            cases hx
            exact (step_delete hT hW ho h0 h1 hs h2 hu hm hk hko hi hes).wp hn
          · cases hx
        · cases hx
      · cases hx
    · cases hx
  · rename_i fv args argTypes ho
    split at hx
    · rename_i k first cap hf
      split at hx
      · rename_i hk
        split at hx
        · rename_i r h2 hc
          cases hx
          exact call_wp hcall hT hW ho hf hk.1 hk.2 hc hn
        · cases hx
      · cases hx
    · cases hx
  · rename_i ty r ho
    split at hx
    · rename_i kt et hu
      cases hx
      exact (step_makeMap hT hW ho).wp hn
    · cases hx
  · rename_i ty m k v ho
    split at hx
    · rename_i kt et i hu hm
      split at hx
      · rename_i ks es hk hko hi
        split at hx
        · rename_i hv
          split at hx
          · rename_i es' hes
            cases hx
            exact (step_mapUpdate hT hW (.inl ho) hu hm hk hko hi hv hes).wp hn
          · cases hx
        · cases hx
      · cases hx
    · cases hx
  · rename_i ty m k v ho
    split at hx
    · rename_i kt et i hu hm
      split at hx
      · rename_i ks es hk hko hi
        split at hx
        · rename_i hv
          split at hx
          · rename_i es' hes
            cases hx
            exact (step_mapUpdate hT hW (.inr ho) hu hm hk hko hi hv hes).wp hn
          · cases hx
        · cases hx
      · cases hx
    · cases hx
  · rename_i fn first cap ho
    split at hx
    · rename_i ds t1 hc
      cases hx
      exact (step_makeFunc hT hW ho hc).wp hn
    · cases hx
  · rename_i ty l c ho
    split at hx
    · rename_i r h2' hr
      cases hx
      exact (step_makeV hT hW ho hr).wp hn
    · cases hx
  · rename_i ty n ps ho
    split at hx
    · split at hx
      · rename_i r h2' hr
        cases hx
        exact (step_buildV hT hW ho hr).wp hn
      · cases hx
    · split at hx
      · rename_i x hc
        cases hx
        exact ((calm_sound hT hW hc).step hT).wp hn
      · cases hx
  · rename_i x ho
    split at hx
    · rename_i hc
      cases hx
      simp only [Bool.and_eq_true] at hc
      exact (step_rawnil hT hW (.inl ho) hc.2).wp hn
    split at hx
    · split at hx
      rename_i y t1 hy
      cases hx
      exact (step_assign hT hW (.inl ho) hy).wp hn
    · cases hx
      exact ((calm_move hT hW (.inl ho)).step hT).wp hn
  · rename_i x ho
    split at hx
    · rename_i hc
      cases hx
      simp only [Bool.and_eq_true] at hc
      exact (step_rawnil hT hW (.inr ho) hc.2).wp hn
    split at hx
    · cases hx
      exact ((calm_move hT hW (.inr ho)).step hT).wp hn
    · split at hx
      rename_i y t1 hy
      cases hx
      exact (step_assign hT hW (.inr ho) hy).wp hn
  · rename_i x i ho
    split at hx
    · exact (step_extract hT hW ho hx).wp hn
    · split at hx
      · rename_i v hv
        cases hx
        exact ((calm_sound hT hW hv).step hT).wp hn
      · cases hx
  · rename_i ty ps ho
    split at hx
    · split at hx
      · rename_i x hb
        cases hx
        exact ((calm_build_raw hT hW ho hb).step hT).wp hn
      · cases hx
    · split at hx
      · rename_i x hc
        cases hx
        exact ((calm_sound hT hW hc).step hT).wp hn
      · cases hx
  · rename_i ty ad ho
    split at hx
    · rename_i cs hc
      split at hx
      · rename_i hcond
        split at hx
        · rename_i es l hown
          split at hx
          · rename_i t1 h1 hs
            cases hx
            obtain ⟨s, hd⟩ : ∃ s, o.dst = some s := by
              have := hcond.1
              cases hd : o.dst with
              | none => simp [hd, xfers] at this
              | some s => exact ⟨s, rfl⟩
            obtain ⟨n, hi⟩ : ∃ n, tinfo P ty = some (false, n) := by
              have := hcond.2.1
              unfold oneCellTy at this
              split at this
              · rename_i b n e
                cases b
                · exact ⟨n, e⟩
                · cases this
              · cases this
            obtain ⟨cs', rfl⟩ : ∃ cs', cs = .list true es l :: cs' := by
              unfold ownHead at hown
              split at hown
              · cases hown
                exact ⟨_, rfl⟩
              · cases hown
            exact (step_load_take hT hW ho hd hc hi hs).wp hn
          · cases hx
        · cases hx
      · split at hx
        · rename_i x ho'
          split at hx
          · cases hx
          cases hx
          exact (step_loadR hT hW ho hc ho').wp hn
        · cases hx
    · cases hx
  · split at hx
    · rename_i x hc
      cases hx
      exact ((calm_sound hT hW hc).step hT).wp hn
    · cases hx

theorem wanted_rel {ops : Array Oper} (hT : RelT g w d t a.tmps) {b : Bool} (hw : wantedD ops o t = some b) : Region.wanted o (yielded ops a.tmps) = b := by
  unfold wantedD at hw
  unfold Region.wanted
  split at hw
  · rename_i hg
    cases hw
    simp [hg]
  · rename_i j want hg
    simp only [hg]
    split at hw
    · rename_i s hs
      split at hw
      · rename_i c hc
        cases hw
        have hv := hT.getV hc (by rfl)
        have : yielded ops a.tmps j = some c := by
          unfold yielded
          rw [hs]
          simp only [Option.bind_some]
          obtain ⟨v, hv1, hv2⟩ := hv
          rw [hv1]
          cases hv2.1
          rfl
        rw [this]
        cases c <;> cases want <;> rfl
      · cases hw
        rename_i us hc
        have hv := hT.getV hc (by rfl)
        have : yielded ops a.tmps j = none := by
          unfold yielded
          rw [hs]
          simp only [Option.bind_some]
          obtain ⟨v, hv1, hv2⟩ := hv
          rw [hv1]
          cases hv2.1
          rfl
        rw [this]
        rfl
      · cases hw
    · cases hw

theorem RelT.put_undef (hT : RelT g w d t a.tmps) {dst : Option Tmp} : RelT g w d (putD t dst (.sc undef)) (a.put dst undef).tmps :=
  hT.put (RelV.sc undef).relP (fun _ _ => .none rfl)

theorem Next.refl_undef {K : Act → World → Prop} (hT : RelT g w d t a.tmps) (hW : WInv g h w) {dst : Option Tmp} (hn : Next d g w a (putD t dst (.sc undef)) h K) : K (a.put dst undef) w :=
  hn g _ w (Ext.refl d g w) hW hT.put_undef (put_defers _ _ _)

theorem ops_sound (hcall : CallS P call) {ops : Array Oper} {Q : Exit → Act → World → Prop} : ∀ (l : List Oper) (t : List DV) (h : DHeap) (a : Act) (g : Gh) (w : World) (t' : List DV) (h' : DHeap), RelT g w d t a.tmps → WInv g h w →
    opsD P C f call ops l t h = some (t', h') → Next d g w a t' h' (Q .normal) → wpList P ops Q l a w
  | [], t, h, a, g, w, t', h', hT, hW, hx, hn => by
    simp only [opsD, Option.some.injEq, Prod.mk.injEq] at hx
    obtain ⟨rfl, rfl⟩ := hx
    exact hn g a w (Ext.refl d g w) hW hT rfl
  | o :: rest, t, h, a, g, w, t', h', hT, hW, hx, hn => by
    refine wpList_step fun K hK => ?_
    simp only [opsD] at hx
    split at hx
    · rename_i hw
      rw [if_pos (wanted_rel hT hw)]
      split at hx
      · rename_i t1 h1 hop
        refine op_sound hcall hT hW hop (fun g' a' w' he hW' hT' hd => ?_)
        refine hK _ _ (ops_sound hcall rest t1 h1 a' g' w' t' h' hT' hW' hx (fun g'' a'' w'' he' hW'' hT'' hd' => ?_))
        exact hn g'' a'' w'' (he.trans he') hW'' hT'' (hd'.trans hd)
      · cases hx
    · rename_i hw
      rw [if_neg (by rw [wanted_rel hT hw]; simp)]
      refine hK _ _ (ops_sound hcall rest _ _ _ g w t' h' hT.put_undef hW hx (fun g'' a'' w'' he' hW'' hT'' hd' => ?_))
      exact hn g'' a'' w'' he' hW'' hT'' (hd'.trans (put_defers _ _ _))
    · cases hx
end
end Go.DS

/-
  Code.
-/
namespace Go.DS
set_option linter.unusedSectionVars false
variable [M : Mono]
open Go
set_option linter.unusedVariables false

section
variable {P : Program} {C : Cfg} {f : FuncId} {call : FuncId → List DV → DHeap → Option (DV × DHeap)} {a : Act} {g : Gh} {w : World} {h : DHeap} {d : Nat} {t : List DV}

theorem keepFrom_len (ks : List Tmp) : ∀ (i : Nat) (t : List DV), (keepFrom ks i t).length = t.length
  | _, [] => rfl
  | i, x :: t => by simp [keepFrom, keepFrom_len ks (i + 1) t]

theorem keepFrom_get (ks : List Tmp) : ∀ (i : Nat) (t : List DV) (s : Nat) (x : DV), (keepFrom ks i t)[s]? = some x → x = .junk ∨ t[s]? = some x
  | _, [], s, x, hx => by simp [keepFrom] at hx
  | i, y :: t, 0, x, hx => by
    simp only [keepFrom, List.getElem?_cons_zero, Option.some.injEq] at hx
    split at hx
    · exact .inr (by simp [hx])
    · exact .inl hx.symm
  | i, y :: t, s + 1, x, hx => by
    simp only [keepFrom, List.getElem?_cons_succ] at hx ⊢
    exact keepFrom_get ks (i + 1) t s x hx

theorem relT_keep {tmps : Array Value} {id : Nat} (hT : RelT g w d t tmps) : RelT g w d (keepD C f id t) tmps := by
  unfold keepD
  split
  · rename_i ks _
    refine ⟨by rw [keepFrom_len]; exact hT.len, fun s x v hx hv => ?_⟩
    rcases keepFrom_get ks 0 t s x hx with rfl | hx'
    · exact ⟨.junk _, OwnAt.none rfl⟩
    · have := hT.at_ s x v hx' hv
      cases x <;> try exact this
      rename_i s' off
      intro cs hcs
      rcases keepFrom_get ks 0 t s' _ hcs with hj | hcs'
      · cases hj
      · exact this cs hcs'
  · exact hT

def XD.of : XD → Exit
  | .normal => .normal
  | .exit j => .exit j
  | .ret => .ret

/-- What a way to run regions must keep. -/
def RegionS (P : Program) (region : Array Oper → Bool → List DV → DHeap → Option (List DV × DHeap)) : Prop :=
  ∀ (ops : Array Oper) (draw : Bool) (t : List DV) (h : DHeap) (t' : List DV) (h' : DHeap), region ops draw t h = some (t', h') →
    ∀ (d : Nat) (a : Act) (g : Gh) (w : World) (id : Nat) (Q : Exit → Act → World → Prop), RelT g w d t a.tmps → WInv g h w → Next d g w a t' h' (Q .normal) → (Code.region id ops draw).wp P Q a w

theorem code_sound {region : Array Oper → Bool → List DV → DHeap → Option (List DV × DHeap)} (hreg : RegionS P region) (n : Nat) : ∀ (c : Code) (t : List DV) (h : DHeap) (a : Act) (g : Gh) (w : World) (Q : Exit → Act → World → Prop) (x : XD) (t' : List DV) (h' : DHeap),
    RelT g w d t a.tmps → WInv g h w → codeD P C f call region n c t h = some (x, t', h') → Next d g w a t' h' (Q x.of) → c.wp P Q a w := by
  intro c
  induction c with
  | skip =>
    intro t h a g w Q x t' h' hT hW hx hn
    simp only [codeD, Option.some.injEq, Prod.mk.injEq] at hx
    obtain ⟨rfl, rfl, rfl⟩ := hx
    exact wp_skip (hn g a w (.refl ..) hW hT rfl)
  | label l =>
    intro t h a g w Q x t' h' hT hW hx hn
    simp only [codeD, Option.some.injEq, Prod.mk.injEq] at hx
    obtain ⟨rfl, rfl, rfl⟩ := hx
    exact wp_label (hn g a w (.refl ..) hW hT rfl)
  | ret =>
    intro t h a g w Q x t' h' hT hW hx hn
    simp only [codeD, Option.some.injEq, Prod.mk.injEq] at hx
    obtain ⟨rfl, rfl, rfl⟩ := hx
    exact wp_ret (hn g a w (.refl ..) hW hT rfl)
  | exit j =>
    intro t h a g w Q x t' h' hT hW hx hn
    simp only [codeD, Option.some.injEq, Prod.mk.injEq] at hx
    obtain ⟨rfl, rfl, rfl⟩ := hx
    exact wp_exit (hn g a w (.refl ..) hW hT rfl)
  | region id ops draw =>
    intro t h a g w Q x t' h' hT hW hx hn
    simp only [codeD] at hx
    split at hx
    · rename_i t1 h1 hr
      cases hx
      exact hreg ops draw t h t1 h' hr d a g w id Q hT hW (fun g' a' w' he hW' hT' hd => hn g' a' w' he hW' (relT_keep hT') hd)
    · cases hx
  | seq x y ihx ihy =>
    intro t h a g w Q e t' h' hT hW hx hn
    simp only [codeD] at hx
    split at hx
    · rename_i t1 h1 h2
      refine wp_seq (ihx t h a g w _ .normal t1 h1 hT hW h2 (fun g' a' w' he hW' hT' hd => ?_))
      refine ihy t1 h1 a' g' w' Q e t' h' hT' hW' hx (fun g'' a'' w'' he' hW'' hT'' hd' => ?_)
      exact hn g'' a'' w'' (he.trans he') hW'' hT'' (hd'.trans hd)
    · rename_i j t1 h1 h2
      cases hx
      exact wp_seq (ihx t h a g w _ (.exit j) t' h' hT hW h2 hn)
    · rename_i t1 h1 h2
      cases hx
      exact wp_seq (ihx t h a g w _ .ret t' h' hT hW h2 hn)
    · cases hx
  | cond b x y ihx ihy =>
    intro t h a g w Q e t' h' hT hW hx hn
    simp only [codeD] at hx
    have hb := opnd_rel (P := P) hT 0 b
    split at hx
    · rename_i hc
      rw [hc] at hb
      have : a.eval b = .bool true := by generalize a.eval b = v at hb; cases hb; rfl
      exact wp_cond_true this (ihx t h a g w Q e t' h' hT hW hx hn)
    · rename_i hc
      rw [hc] at hb
      have : a.eval b = .bool false := by generalize a.eval b = v at hb; cases hb; rfl
      exact wp_cond_false this (ihy t h a g w Q e t' h' hT hW hx hn)
    · cases hx
  | block id c ih =>
    intro t h a g w Q e t' h' hT hW hx hn
    simp only [codeD] at hx
    split at hx
    · rename_i j t1 h1 h2
      split at hx
      · rename_i hj
        cases hx
        refine wp_block (ih t h a g w _ (.exit j) t' h' hT hW h2 (fun g' a' w' he hW' hT' hd => ?_))
        have := hn g' a' w' he hW' hT' hd
        simpa [Exit.inBlock, XD.of, hj] using this
      · rename_i hj
        cases hx
        refine wp_block (ih t h a g w _ (.exit j) t' h' hT hW h2 (fun g' a' w' he hW' hT' hd => ?_))
        have := hn g' a' w' he hW' hT' hd
        simpa [Exit.inBlock, XD.of, hj] using this
    · rename_i hne
      refine wp_block (ih t h a g w _ e t' h' hT hW hx (fun g' a' w' he hW' hT' hd => ?_))
      have := hn g' a' w' he hW' hT' hd
      cases e with
      | exit j => exact (hne j t' h' hx).elim
      | normal => exact this
      | ret => exact this
  | scope c ih =>
    intro t h a g w Q e t' h' hT hW hx hn
    simp only [codeD] at hx
    refine wp_scope_straight (ih t h a g w _ e t' h' hT hW hx (fun g' a' w' he hW' hT' hd => ?_))
    have := hn g' a' w' he hW' hT' hd
    cases e <;> exact this
  | loop c ih =>
    intro t h a g w Q e t' h' hT hW hx hn
    simp only [codeD] at hx
    refine wp_loop_rounds n ?_
    have key : ∀ (m : Nat) (t : List DV) (h : DHeap) (a : Act) (g : Gh) (w : World), RelT g w d t a.tmps → WInv g h w → iterD (fun t h => codeD P C f call region n c (keepD C f (loopKey c) t) h) m t h = some (e, t', h') → Next d g w a t' h' (Q e.of) → Code.rounds P c Q m a w := by
      intro m
      induction m with
      | zero => intro t h a g w hT hW hx hn; simp [iterD] at hx
      | succ m ihm =>
        intro t h a g w hT hW hx hn
        simp only [iterD] at hx
        rw [rounds_succ]
        split at hx
        · rename_i t1 h1 h2
          refine ih _ h a g w _ .normal t1 h1 (relT_keep hT) hW h2 (fun g' a' w' he hW' hT' hd => ?_)
          exact ihm t1 h1 a' g' w' hT' hW' hx (fun g'' a'' w'' he' hW'' hT'' hd' => hn g'' a'' w'' (he.trans he') hW'' hT'' (hd'.trans hd))
        · rename_i j t1 h1 h2
          cases hx
          exact ih _ h a g w _ (.exit j) t' h' (relT_keep hT) hW h2 hn
        · rename_i t1 h1 h2
          cases hx
          exact ih _ h a g w _ .ret t' h' (relT_keep hT) hW h2 hn
        · cases hx
    exact key n t h a g w hT hW hx hn
  | _ => intro t h a g w Q e t' h' hT hW hx hn; simp [codeD] at hx

/-- Reading one result. -/
def readRes (tmps : Array Value) : ResultVar → Sem Value
  | .tmp t => pure (tmps.getD t undef)
  | .cell c ty => do loadVar ty (← asAddr (tmps.getD c undef))

theorem ret_one (hT : RelT g w d t a.tmps) (hW : WInv g h w) {rv : ResultVar} {x : DV} (hx : retOne P t h rv = some x) :
    ∃ v s, (readRes a.tmps rv).run P w = .ok v w ∧ RelV g x v ∧ OwnAt g w (.ownSlot d s) x v := by
  cases rv with
  | tmp s =>
    simp only [retOne] at hx
    split at hx
    · rename_i y hy
      split at hx
      · rename_i hp
        cases hx
        obtain ⟨v, hv, hr, ho⟩ := hT.getV hy hp
        exact ⟨v, s, by simp [readRes, hv], hr, ho⟩
      · cases hx
    · cases hx
  | cell s ty =>
    simp only [retOne] at hx
    split at hx
    · rename_i cs hc
      obtain ⟨b, off, vs, hv, hr, hin⟩ := cellsAt_rel hT hW (opnd_rel (P := P) hT 0 (.tmp s)) hc
      obtain ⟨v, hl, hrel, hs⟩ := ofCells_rel hx hr hin
      refine ⟨v, 0, ?_, hrel, hs w _⟩
      have hv' : a.tmps.getD s undef = .pointer (some ⟨b, off, none⟩) := hv
      simp only [readRes, hv']
      simp [asAddr, hl]
    · cases hx

theorem RelL.shed {ds : List DV} {vs : List Value} (hr : RelL g ds vs) : RelL g (ds.map DV.shed) vs :=
  ⟨by simp [hr.len], fun k x v hx hv => by
    rw [List.getElem?_map] at hx
    cases hk : ds[k]? with
    | none => simp [hk] at hx
    | some y =>
      simp only [hk, Option.map_some, Option.some.injEq] at hx
      subst hx
      exact (hr.at_ k y v hk hv).shed⟩

theorem ret_all (hT : RelT g w d t a.tmps) (hW : WInv g h w) : ∀ (rs : List ResultVar) (xs : List DV), retAll P t h rs = some xs →
    ∃ vs, Sem.run P (rs.mapM (readRes a.tmps)) w = .ok vs w ∧ RelL g xs vs ∧ ∀ x xs' v vs', xs = x :: xs' → vs = v :: vs' → ∃ s, OwnAt g w (.ownSlot d s) x v
  | [], xs, hx => by
    cases hx
    exact ⟨[], by simp, .nil g, fun x xs' v vs' h1 => by cases h1⟩
  | r :: rs, xs, hx => by
    simp only [retAll] at hx
    split at hx
    · rename_i x ys h1 h2
      cases hx
      obtain ⟨v, s, hv, hr, ho⟩ := ret_one hT hW h1
      obtain ⟨vs, hvs, hrs, _⟩ := ret_all hT hW rs ys h2
      refine ⟨v :: vs, ?_, .cons hr hrs, fun x' _ v' _ e1 e2 => ?_⟩
      · rw [List.mapM_cons, Sem.run_bind, hv]
        simp only [Result.andThen_ok, Sem.run_bind, hvs, Sem.run_pure]
      · cases e1
        cases e2
        exact ⟨s, ho⟩
    · cases hx

theorem ret_sound {fn : Func} (hT : RelT g w d t a.tmps) (hW : WInv g h w) {x : DV} (hx : retD P t h fn.results.toList = some x) :
    ∃ v s, (results fn a.tmps).run P w = .ok v w ∧ RelV g x v ∧ OwnAt g w (.ownSlot d s) x v := by
  unfold retD at hx
  have hres : ∀ vs : List Value, Sem.run P (fn.results.toList.mapM (readRes a.tmps)) w = .ok vs w →
      (results fn a.tmps).run P w = .ok (if h : vs.length = 1 then vs[0] else .tuple vs.toArray) w := by
    intro vs hv
    have e : results fn a.tmps = (do let vs ← fn.results.mapM (readRes a.tmps); pure (if h : vs.size = 1 then vs[0] else .tuple vs)) := by
      unfold results
      congr 1
    rw [e, Array.mapM_eq_mapM_toList]
    simp [hv]
  split at hx
  · rename_i y hy
    cases hx
    obtain ⟨vs, hv, hr, ho⟩ := ret_all hT hW _ _ hy
    obtain ⟨v, rfl⟩ : ∃ v, vs = [v] := by
      have := hr.len
      match vs, this with
      | [v], _ => exact ⟨v, rfl⟩
    obtain ⟨s, ho⟩ := ho _ _ _ _ rfl rfl
    exact ⟨v, s, by rw [hres _ hv]; rfl, hr.at_ 0 _ _ rfl rfl, ho⟩
  · rename_i xs hne hxs
    cases hx
    obtain ⟨vs, hv, hr, ho⟩ := ret_all hT hW _ _ hxs
    have hlen : ¬ vs.length = 1 := by
      intro e
      rw [← hr.len] at e
      match xs, e with
      | [x], _ => exact hne x rfl
    cases xs with
    | nil =>
      have := hr.nil_inv
      subst this
      exact ⟨_, 0, by rw [hres _ hv]; rfl, .tup rfl (RelL.nil g).at_, .none rfl⟩
    | cons x xs =>
      obtain ⟨v, us, rfl, hv1, hr1⟩ := hr.cons_inv
      obtain ⟨s, ho⟩ := ho x xs v us rfl rfl
      have := RelL.cons hv1 hr1.shed
      exact ⟨_, s, by rw [hres _ hv, dif_neg hlen], .tup this.len this.at_, .tup ho rfl⟩
  · cases hx
end
end Go.DS

/-
  Regions whose order is drawn: what is asked, and the evaluator's way to run them.
-/
namespace Go.DS
/-- Where nothing else is said it is not said. -/
instance (priority := 10) monoOff : Mono := ⟨false⟩
open Go
set_option linter.unusedVariables false

/-- What an operation is to the others of its region. calm: looks at slots alone; read: looks at memory too; new: makes a variable of the frame; func: makes a function value; call; hard: all else. -/
inductive Srt where
  | calm | read | new | func | call | hard
  deriving DecidableEq

def srt (C : Cfg) (f : FuncId) (o : Oper) : Srt := match o.op with
  | .box _ _ => match o.dst with
    | some s => if C.esc f s then .hard else .new
    | none => .hard
  | .alloc _ => match o.dst with
    | some s => if C.esc f s then .hard else .new
    | none => .hard
  | .makeFunc _ _ _ => .func
  | .call { callee := .value _, .. } => .call
  | .call { callee := .builtin .len, .. } => .read
  | .call { callee := .builtin .max, .. } | .call { callee := .builtin .min, .. } => .calm
  | .call _ => .hard
  | .load _ _ => if xfers C f o.dst || raws C f o.dst then .hard else .read
  | .lookup _ _ _ _ => .read
  | .move _ => if xfers C f o.dst || raws C f o.dst then .hard else .calm
  | .assign _ => if xfers C f o.dst && !raws C f o.dst then .calm else .hard
  | .extract _ _ => if xfers C f o.dst then .hard else .calm
  | .build _ _ => if raws C f o.dst then .hard else .calm
  | .buildSlice _ _ _ => if raws C f o.dst then .hard else .calm
  | .makeSlice _ _ _ => .hard
  | .store _ _ _ | .makeMap _ _ | .mapUpdate _ _ _ _ | .insert _ _ _ _ => .hard
  | _ => .calm

def Srt.soft : Srt → Bool
  | .calm | .read | .new | .func => true
  | _ => false

def tmpsOf : List Operand → List Tmp
  | [] => []
  | .tmp s :: xs => s :: tmpsOf xs
  | _ :: xs => tmpsOf xs

/-- Slots that may lose the right to append. -/
def takes (C : Cfg) (f : FuncId) (o : Oper) : List Tmp := match srt C f o with
  | .hard => match o.op with
    | .store _ _ x => tmpsOf [x]
    | .assign x => tmpsOf [x]
    | .move x => tmpsOf [x]
    | .extract x _ => tmpsOf [x]
    | .call { callee := .builtin .append, args, .. } => tmpsOf (args.toList.take 1)
    | _ => []
  | _ => []

/-- The slots that an operation writes. -/
def writes (C : Cfg) (f : FuncId) (o : Oper) : List Tmp := o.dst.toList ++ takes C f o

def noneIn (xs ys : List Tmp) : Bool := xs.all fun x => !ys.contains x

/-- A taking that leaves memory as it is. -/
def still (o : Oper) : Bool := match o.op with
  | .move _ => true
  | _ => false
/-- A call of a function that runs on a heap of its own. -/
def calmCall (C : Cfg) (o : Oper) : Bool := match o.op with
  | .call { callee := .value (.func k), .. } => (C.pure k && (C.ext k).isNone) || C.look k
  | _ => false
/-- A list of slots that are watched: 2 s says of slot s that no object of the clean heap lies there, 2 s + 1 that no variable of the frame does. -/
def saw (rs : List Nat) (s : Tmp) : Bool := rs.contains (2 * s)
def sawQ (rs : List Nat) (s : Tmp) : Bool := rs.contains (2 * s + 1)
/-- The address that an operation changes memory at. -/
def adr (o : Oper) : Option (List Tmp) := match o.op with
  | .store _ a _ => some (tmpsOf [a])
  | .load _ a => some (tmpsOf [a])
  | _ => none
/-- What x looks at, and what y changes, lie apart: one in the frame, the other one in the heap. -/
def memOK (ops : Array Oper) (rs : List Nat) (x y : Oper) : Bool := match adr y with
  | some l => ((x.looksAt ops).all (saw rs) && l.all (sawQ rs)) || ((x.looksAt ops).all (sawQ rs) && l.all (saw rs))
  | none => false
/-- Two operations that may change places. -/
def mayPass (C : Cfg) (f : FuncId) (ops : Array Oper) (rs fs : List Tmp) (x y : Oper) : Bool :=
  noneIn (writes C f x) (y.looksAt ops) && noneIn (writes C f y) (x.looksAt ops) && noneIn (writes C f x) (writes C f y) &&
  (match srt C f x, srt C f y with
    | .read, .call => calmCall C y || (x.looksAt ops).all (saw rs)
    | .call, .read => calmCall C x || (y.looksAt ops).all (saw rs)
    | .read, .hard => still y || memOK ops rs x y
    | .hard, .read => still x || memOK ops rs y x
    | .new, .hard | .hard, .new => false
    | .call, .hard => still y && x.guard.isNone && y.guard.isNone
    | .hard, .call => still x && x.guard.isNone && y.guard.isNone
    | .call, .call | .hard, .hard => false
    | _, _ => true) &&
  (match srt C f x with | .func => (x.dst.toList).all fs.contains | _ => true) &&
  (match srt C f y with | .func => (y.dst.toList).all fs.contains | _ => true)

def maskOf (acc : List Nat) : List Edge → Nat
  | [] => 0
  | e :: es => if Region.binds .any e then 2 ^ e.on ||| acc.getD e.on 0 ||| maskOf acc es else maskOf acc es
def masks : List Oper → List Nat → List Nat
  | [], acc => acc
  | o :: os, acc => masks os (acc ++ [maskOf acc o.after.toList])

/-- The pairs that are in no order. -/
def pairsOK (p : Oper → Oper → Bool) (ops : List Oper) (ms : List Nat) : Bool :=
  (List.range ops.length).all fun j => (List.range j).all fun i => (ms.getD j 0).testBit i || match ops[i]?, ops[j]? with
    | some x, some y => p x y
    | _, _ => false
def inText (ops : List Oper) : Bool :=
  (List.range ops.length).all fun j => match ops[j]? with
    | some o => o.after.toList.all fun e => !Region.binds .any e || decide (e.on < j)
    | none => true

def pick (p : Oper → Oper → List Tmp) (ops : List Oper) (ms : List Nat) : List Tmp :=
  (List.range ops.length).flatMap fun j => (List.range j).flatMap fun i => if (ms.getD j 0).testBit i then [] else match ops[i]?, ops[j]? with
    | some x, some y => p x y
    | _, _ => []

/-- Where an address in the region comes from. -/
def rootOf (ops : Array Oper) : Nat → Tmp → Tmp
  | 0, s => s
  | n + 1, s => match ops.find? (fun o => o.dst == some s) with
    | some o => match o.op with
      | .fieldAddr _ (.tmp b) _ => rootOf ops n b
      | .nilCheck (.tmp b) => rootOf ops n b
      | .indexAddr _ (.tmp b) _ => rootOf ops n b
      | .move (.tmp b) => rootOf ops n b
      | _ => s
    | none => s
def needMem (C : Cfg) (f : FuncId) (ops : Array Oper) (x y : Oper) : List Nat := if still y then [] else match adr y with
  | some l => if (x.looksAt ops).any (fun s => C.esc f (rootOf ops 8 s) || rootOf ops 8 s == 0) then (x.looksAt ops).map (fun s => 2 * s + 1) ++ l.map (fun s => 2 * s) else (x.looksAt ops).map (fun s => 2 * s) ++ l.map (fun s => 2 * s + 1)
  | none => []
def needAs (C : Cfg) (f : FuncId) (ops : Array Oper) (x y : Oper) : List Nat := match srt C f x, srt C f y with
  | .read, .call => if calmCall C y then [] else (x.looksAt ops).map (fun s => 2 * s)
  | .call, .read => if calmCall C x then [] else (y.looksAt ops).map (fun s => 2 * s)
  | .read, .hard => needMem C f ops x y
  | .hard, .read => needMem C f ops y x
  | _, _ => []
def needFs (C : Cfg) (f : FuncId) (x y : Oper) : List Tmp :=
  (match srt C f x with | .func => x.dst.toList | _ => []) ++ (match srt C f y with | .func => y.dst.toList | _ => [])

def quiet : DV → Bool
  | .box _ | .path _ _ => false
  | _ => true
def stays : DV → Bool
  | .ptr _ _ | .rptr _ _ | .mp _ => false
  | _ => true
def slotQ (t : List DV) (s : Tmp) : Bool := match t[s]? with
  | some x => quiet x
  | none => false
def noPath (s : Tmp) (t : List DV) : Bool := t.all fun
  | .path s' _ => !(s' == s)
  | _ => true
def noBoxAt (t : List DV) (s : Tmp) : Bool := match t[s]? with
  | some (.box _) => false
  | _ => true
/-- What is asked of a watched slot's value. -/
def chk (c : Nat) (x : DV) : Bool := if c % 2 = 0 then stays x else quiet x
def staysAt (rs : List Nat) (t : List DV) : Bool := rs.all fun s => match t[s / 2]? with
  | some x => chk s x
  | none => true

def preX (C : Cfg) (f : FuncId) (fs : List Tmp) (o : Oper) (t : List DV) : Bool :=
  (match o.dst with | some s => slotQ t s | none => true) &&
  (match srt C f o with
    | .new => (match o.dst with | some s => noPath s t | none => false)
    | .func => (if (o.dst.toList).all fs.contains then (tmpsOf o.op.operands.toList).all (noBoxAt t) else true)
    | _ => true)

/-- An address of a variable of the frame comes out of an operand; a variable is made by what makes one. -/
def pathFrom (C : Cfg) (f : FuncId) (o : Oper) (t : List DV) : DV → Bool
  | .path s' _ => (tmpsOf o.op.operands.toList).any fun s => s == s' || match t[s]? with
    | some (.path s'' _) => s'' == s'
    | _ => false
  | .box _ => decide (srt C f o = .new)
  | _ => true
def pathsAt (C : Cfg) (f : FuncId) (o : Oper) (t t' : List DV) : Bool := match o.dst with
  | some s => match t'[s]? with
    | some v => pathFrom C f o t v
    | none => true
  | none => true

def stepX (P : Program) (C : Cfg) (f : FuncId) (call : FuncId → List DV → DHeap → Option (DV × DHeap)) (ops : Array Oper) (rs fs : List Tmp) (o : Oper) (t : List DV) (h : DHeap) : Option (List DV × DHeap) :=
  if preX C f fs o t then
    match wantedD ops o t with
    | some true => match opD P C f call o t h with
      | some (t', h') => if staysAt rs t' && pathsAt C f o t t' then some (t', h') else none
      | none => none
    | some false => some (putD t o.dst (.sc undef), h)
    | none => none
  else none

def runX (P : Program) (C : Cfg) (f : FuncId) (call : FuncId → List DV → DHeap → Option (DV × DHeap)) (ops : Array Oper) (rs fs : List Tmp) : List Oper → List DV → DHeap → Option (List DV × DHeap)
  | [], t, h => some (t, h)
  | o :: os, t, h => match stepX P C f call ops rs fs o t h with
    | some (t', h') => runX P C f call ops rs fs os t' h'
    | none => none

/-- What is asked of a region ahead of a run. -/
def drawOK (C : Cfg) (f : FuncId) (ops : Array Oper) : Option (List Tmp × List Tmp) :=
  let ms := masks ops.toList []
  let rs := pick (needAs C f ops) ops.toList ms
  let fs := pick (needFs C f) ops.toList ms
  if inText ops.toList && pairsOK (mayPass C f ops rs fs) ops.toList ms then some (rs, fs) else none

def regionD (P : Program) (C : Cfg) (f : FuncId) (call : FuncId → List DV → DHeap → Option (DV × DHeap)) (ops : Array Oper) (draw : Bool) (t : List DV) (h : DHeap) : Option (List DV × DHeap) :=
  match draw with
  | false => opsD P C f call ops ops.toList t h
  | true => match P.follows .mixedOrders, drawOK C f ops with
    | true, some (rs, fs) => if staysAt rs t then runX P C f call ops rs fs ops.toList t h else none
    | _, _ => none

/-- Functions, by fuel. -/
def evBody (P : Program) (C : Cfg) (call : FuncId → List DV → DHeap → Option (DV × DHeap)) (n : Nat) (k : FuncId) (args : List DV) (h : DHeap) : Option (DV × DHeap) :=
  match P.funcs[k]? with
  | some fn => match fn.body with
    | some c => match codeD P C k call (regionD P C k call) n c (args.map DV.shed ++ List.replicate (fn.ntmps - args.length) .junk) h with
      | some (.normal, t, h') => match retD P t h' fn.results.toList with
        | some r => some (r, h')
        | none => none
      | some (.ret, t, h') => match retD P t h' fn.results.toList with
        | some r => some (r, h')
        | none => none
      | _ => none
    | none => none
  | none => none

def ev (P : Program) (C : Cfg) : Nat → FuncId → List DV → DHeap → Option (DV × DHeap)
  | 0, _, _, _ => none
  | n + 1, k, args, h => match C.ext k with
    | some F => match F args h with
      | some (r, h') => if r.plain then some (r, h') else none
      | none => none
    | none => match C.pure k with
      | true => if args.all heapFree then
          match evBody P C (ev P C n) n k args [] with
          | some (r, _) => if heapFree r then some (r, h) else none
          | none => none
        else none
      | false => match evBody P C (ev P C n) n k args h with
        | some (r, h') => if r.plain then (if C.gc k then trim h.length r h' else some (r, h')) else none
        | none => none

end Go.DS
