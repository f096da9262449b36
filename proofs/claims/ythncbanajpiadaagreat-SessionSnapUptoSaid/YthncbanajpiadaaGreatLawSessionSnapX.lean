/-
  Walks: the law SessionSnap.
-/
import Derived.Test.YthncbanajpiadaaGreatH9
import Derived.WalkKit
import Derived.ProofKit
import Derived.OpenShut
import Derived.ShutString
import Derived.ChangeOld
import Derived.Below
import Derived.JoinedCond
import Derived.Carry
set_option linter.unusedSimpArgs false
set_option linter.unusedVariables false
namespace Go.DS
open Go Go.Proofs
set_option maxRecDepth 100000
set_option linter.unusedVariables false
set_option linter.unusedSimpArgs false
def cd4 : Cd := .seq (R [cb 4 (.tk (.c (kb false)))] [0, 1, 11, 12]) (.seq (R [cb 14 (.call none (.c (kf 10)) []), cb 5 (.tk (.s 14))] [0, 1, 5, 11, 12]) (.seq (.seq (R [cb 15 (.mv (.s 5)), cb 16 (.un .not (.s 15))] [0, 1, 5, 11, 12, 16]) (.ite (.s 16) (.seq (R [cb 4 (.tk (.c (kb false)))] [4, 11, 12]) (.ret)) (.skip))) (.seq (.seq (R [c0 17 (.mv (.s 0)), cb 18 (.call none (.c (kf 11)) [(.s 17)]), cb 19 (.mv (.s 18)), cg 20 19 false (.mv (.s 1)), ch 21 19 false (.call none (.c (kf 11)) [(.s 20)]), cb 22 (.pick (.s 19) (.c (kb true)) (.s 21))] [0, 1, 5, 11, 12, 22]) (.ite (.s 22) (.seq (R [cb 23 (.tk (.s 5)), cb 4 (.tk (.s 23))] [4, 11, 12]) (.ret)) (.skip))) (.seq (R [c0 24 (.call none (.c (kf 13)) []), c0 6 (.tk (.s 24))] [0, 1, 5, 6, 11, 12]) (.seq (.seq (R [c0 7 (.tk (.c (ki .i64 0)))] [0, 1, 5, 6, 7, 11, 12]) (.block 0 (LP [0, 1, 5, 6, 7, 11, 12] (.seq (.seq (R [c0 25 (.mv (.s 7)), c0 26 (.mv (.s 0)), c0 27 (.len 1 (.s 26)), cb 28 (.bin .lss .any (.s 25) (.s 27))] [0, 1, 5, 6, 7, 11, 12, 28]) (.ite (.s 28) (.skip) (.exit 0))) (.seq (.block 1 (R [c0 31 (.mv (.s 6)), c0 32 (.mv (.s 0)), c0 33 (.mv (.s 7)), c0 34 (.ixp 8 (.s 32) (.s 33)), c0 35 (.ld true 8 (.s 34)), c0 36 (.bld [ki .i64 0, ks [], ki .i64 0, kz 1] [(2, 1, (.c (ki .i64 5)))]), c0 37 (.call none (.c (kf 14)) [(.s 31), (.s 35), (.s 36)])] [0, 1, 5, 6, 7, 11, 12])) (R [c0 29 (.mv (.s 7)), c0 30 (.bin .add .any (.s 29) (.c (ki .i64 1))), c0 7 (.tk (.s 30))] [0, 1, 5, 6, 7, 11, 12])))))) (.seq (R [c0 39 (.mv (.s 6)), c0 40 (.call none (.c (kf 19)) [(.s 39)]), c0 41 (.mv (.s 6)), c0 42 (.call none (.c (kf 20)) [(.s 41)]), c0 43 (.call none (.c (kf 18)) [(.s 40), (.s 42)]), c0 38 (.tk (.s 43)), c0 44 (.exh (.s 38)), c0 45 (.ext (.s 38) 1), c0 8 (.tk (.s 44)), c0 9 (.tk (.s 45))] [1, 5, 6, 8, 9, 11, 12]) (.seq (.seq (R [c0 46 (.mv (.s 9)), cb 47 (.bin .neq .any (.s 46) (.c (ki .i64 0))), cb 48 (.mv (.s 47)), cg 49 48 false (.mv (.s 6)), cg 50 48 false (.mv (.s 8)), ch 51 48 false (.call none (.c (kf 17)) [(.s 49), (.s 50)]), ch 52 48 false (.un .not (.s 51)), cb 53 (.pick (.s 48) (.c (kb true)) (.s 52))] [1, 5, 6, 8, 11, 12, 53]) (.ite (.s 53) (.seq (R [cb 4 (.tk (.c (kb false)))] [4, 11, 12]) (.ret)) (.skip))) (.seq (.seq (R [c0 10 (.tk (.c (ki .i64 0)))] [1, 5, 6, 8, 10, 11, 12]) (.block 2 (LP [1, 5, 6, 8, 10, 11, 12] (.seq (.seq (R [c0 54 (.mv (.s 10)), c0 55 (.mv (.s 1)), c0 56 (.len 1 (.s 55)), cb 57 (.bin .lss .any (.s 54) (.s 56))] [1, 5, 6, 8, 10, 11, 12, 57]) (.ite (.s 57) (.skip) (.exit 2))) (.seq (.block 3 (.seq (R [c0 60 (.mv (.s 6)), c0 61 (.mv (.s 1)), c0 62 (.mv (.s 10)), c0 63 (.ixp 8 (.s 61) (.s 62)), c0 64 (.ld true 8 (.s 63)), c0 65 (.bld [ki .i64 0, ks [], ki .i64 0, kz 1] []), c0 66 (.call none (.c (kf 14)) [(.s 60), (.s 64), (.s 65)]), c0 11 (.new false (.c (.agg [ki .i64 0, ks [], ki .i64 0, kn 1]))), cn (.st 4 (.s 11) (.s 66))] [1, 5, 6, 8, 10, 11, 12]) (.seq (R [c0 67 (.mv (.s 8)), c0 68 (.mv (.s 1)), c0 69 (.mv (.s 10)), c0 70 (.ixp 8 (.s 68) (.s 69)), c0 71 (.ld true 8 (.s 70)), c0 72 (.bld [ki .i64 0, ks [], ki .i64 0, kz 1] []), c0 73 (.call none (.c (kf 14)) [(.s 67), (.s 71), (.s 72)]), c0 12 (.new false (.c (.agg [ki .i64 0, ks [], ki .i64 0, kn 1]))), cn (.st 4 (.s 12) (.s 73))] [1, 5, 6, 8, 10, 11, 12]) (.seq (R [c0 74 (.ld true 4 (.s 11)), c0 75 (.ld true 4 (.s 12)), cb 76 (.call none (.c (kf 16)) [(.s 74), (.s 75)]), cb 13 (.tk (.s 76))] [1, 5, 6, 8, 10, 11, 12, 13]) (.seq (R [cb 77 (.mv (.s 13)), cb 78 (.un .not (.s 77))] [1, 5, 6, 8, 10, 11, 12, 78]) (.ite (.s 78) (.seq (R [cb 4 (.tk (.c (kb false)))] [4, 11, 12]) (.ret)) (.skip))))))) (R [c0 58 (.mv (.s 10)), c0 59 (.bin .add .any (.s 58) (.c (ki .i64 1))), c0 10 (.tk (.s 59))] [1, 5, 6, 8, 10, 11, 12])))))) (.seq (R [cb 79 (.mv (.s 5)), cb 80 (.mv (.s 79)), cg 81 80 true (.mv (.s 6)), cg 82 80 true (.mv (.s 8)), ch 83 80 true (.call none (.c (kf 17)) [(.s 81), (.s 82)]), cb 84 (.pick (.s 80) (.s 83) (.c (kb false))), cb 4 (.tk (.s 84))] [4, 11, 12]) (.ret))))))))))
theorem fun4 : Fun Tryz.prog cfg 4 85 cd4 [.s 4] := ⟨rfl, Tryz.f4, _, Tryz.func4, rfl, rfl, by kernel_rfl, by kernel_rfl⟩
@[go_sem] theorem ok4 : calleeOK Tryz.prog 4 = true := by kernel_rfl
@[go_sem] theorem ex4 : (cfg.ext 4).isSome = false := rfl
variable {h : DHeap}
theorem sessAll_same {n m n' m' : Nat} {x y : Mach} (X : SessOK n m x) (Y : SessOK n' m' y) (h : SameM x y) : ∀ l : List Cmd, SameM (sessAll x l {}) (sessAll y l {}) := by
  intro l
  induction l generalizing x y n m n' m' with
  | nil => exact h
  | cons c l ih => exact ih (sess_ok X c ⟨Nat.zero_le _, by simp⟩) (sess_ok Y c ⟨Nat.zero_le _, by simp⟩) (sess_congr X Y h c {}).2
set_option maxHeartbeats 4000000 in
theorem sessionSnap_lim (own own2 : Bool) (l m : List Cmd) (hl : l.length ≤ 1048576) (hs : ∀ x ∈ l, x.path.length ≤ 1048576) (hm : m.length ≤ 1048576) (ht : ∀ x ∈ m, x.path.length ≤ 1048576) :
    lim Tryz.prog cfg 4 [.list own 8 (cms l), .list own2 8 (cms m)] h = some (vb true, h) := by
  refine lim_funp fun4 rfl (by simp) (by simp [heapFree, heapFree.all, free_cms]) rfl ?_
  delta cd4
  have w9 := works9_lim (h := [])
  have n0 := snew1
  have o1 := over_lim (h := []) false l (by omega)
  have o2 := over_lim (h := []) false m (by omega)
  cases e1 : overP l with
  | true =>
    rw [e1] at o1
    simp -implicitDefEqProofs -dsimp (maxSteps := 1000000) only [go_sem, wp_RD, w9, o1, o2, n0]
  | false =>
  rw [e1] at o1
  cases e2 : overP m with
  | true =>
    rw [e2] at o2
    simp -implicitDefEqProofs -dsimp (maxSteps := 1000000) only [go_sem, wp_RD, w9, o1, o2, n0]
  | false =>
  rw [e2] at o2
  have hq : l.length ≤ 60 := Decidable.byContradiction fun h1 => by simp [overP, Nat.not_le.1 h1] at e1
  have hqm : m.length ≤ 60 := Decidable.byContradiction fun h1 => by simp [overP, Nat.not_le.1 h1] at e2
  simp -implicitDefEqProofs -dsimp (maxSteps := 1000000) only [go_sem, wp_RD, w9, o1, o2, n0]
  refine wp_for (σ := Nat) (fun k => [(0, .list false 8 (cms l)), (1, .list false 8 (cms m)), (5, vb true), (6, .ptr 3 0), (7, vi (k : Nat)), (11, .junk), (12, .junk)]) (fun k => h1S (sall (l.take k) 5)) (fun k => l.length - k) (fun k => k ≤ l.length) 0 (Nat.zero_le _) rfl rfl ?_
  rintro k hk N hN
  have Ok := sall_ok l 5 k hk
  by_cases hlt : k < l.length
  · have h1 : (k : Int) < (l.length : Int) := by omega
    have a1 := sa1 Ok (by omega) (by omega) l[k] 5 (hs _ (List.getElem_mem hlt))
    rw [← sall_snoc l 5 k hlt] at a1
    simp -implicitDefEqProofs -dsimp (maxSteps := 1000000) only [go_sem, h1, hlt, a1]
    refine hN (k + 1) _ (by omega) (by omega) ?_
    simp -implicitDefEqProofs -dsimp only [go_sem, wrap_succ (show k < 9223372036854775807 by omega)]
  · have h1 : ¬ (k : Int) < (l.length : Int) := by omega
    have hkl : k = l.length := by omega
    generalize hx : sall (l.take k) 5 = x at *
    have f1 := spa1 Ok (by omega)
    have f2 := sse1 Ok (by omega)
    have f3 := sof1 Ok (by omega) true true
    have Y := sessions_ok Ok
    have hxy := sessions_same x
    generalize hy : (⟨entriesP x.d, sessionsP x.s⟩ : Mach) = y at *
    have f4 := ssame2 Ok Y (by omega) (by omega) hxy
    have f3' : ∀ o1 o2, lim Tryz.prog cfg 18 [.list o1 3 (eds (entriesP x.d)), .list o2 6 (ses (sessionsP x.s))] (h1S x) = some (.tup [.ptr 7 0, vi 0], h2S x y) := fun o1 o2 => by
      have := sof1 Ok (by omega) o1 o2
      rw [hy] at this
      exact this
    simp -implicitDefEqProofs -dsimp (maxSteps := 1000000) only [go_sem, wp_RD, h1, f1, f2, f3', f4]
    refine wp_for (σ := Nat × DV × DV) (fun s => [(1, .list false 8 (cms m)), (5, vb true), (6, .ptr 3 0), (8, .ptr 7 0), (10, vi (s.1 : Nat)), (11, s.2.1), (12, s.2.2)]) (fun s => h2S (sessAll x (m.take s.1) {}) (sessAll y (m.take s.1) {})) (fun s => m.length - s.1) (fun s => s.1 ≤ m.length ∧ (s.2.1 = .junk ∧ s.2.2 = .junk ∨ ∃ cs cs', s.2.1 = .box cs ∧ s.2.2 = .box cs')) (0, .junk, .junk) ⟨Nat.zero_le _, .inl ⟨rfl, rfl⟩⟩ rfl rfl ?_
    rintro ⟨j, z1, z2⟩ ⟨hj, hz⟩ N2 hN2
    simp only at hj hz hN2 ⊢
    have Oj := sessAll_ok (ctl := {}) ⟨Nat.zero_le _, by simp⟩ Ok (m.take j)
    have Yj := sessAll_ok (ctl := {}) ⟨Nat.zero_le _, by simp⟩ Y (m.take j)
    have Sj := sessAll_same Ok Y hxy (m.take j)
    have hlm : (m.take j).length = j := by rw [List.length_take]; omega
    rw [hlm] at Oj Yj
    by_cases hlt2 : j < m.length
    · have h2 : (j : Int) < (m.length : Int) := by omega
      have hd : sessAll x (m.take (j + 1)) {} = (sessP (sessAll x (m.take j) {}) m[j] {}).2 := by rw [List.take_succ_eq_append_getElem hlt2]; exact sessAll_snoc ..
      have hd' : sessAll y (m.take (j + 1)) {} = (sessP (sessAll y (m.take j) {}) m[j] {}).2 := by rw [List.take_succ_eq_append_getElem hlt2]; exact sessAll_snoc ..
      have hN3 := fun z => hN2 (j + 1, z)
      simp only [hd, hd'] at hN3
      generalize hX : sessAll x (m.take j) {} = X at *
      generalize hY : sessAll y (m.take j) {} = Z at *
      have a1 := sa21 Z Oj (by omega) (by omega) m[j] 0 (ht _ (List.getElem_mem hlt2))
      have a2 := sa22 (sessP X m[j] {}).2 Yj (by omega) (by omega) m[j] 0 (ht _ (List.getElem_mem hlt2))
      have hc := (sess_congr Oj Yj Sj m[j] {}).1
      rw [← hc] at a2
      have na := sess_names Oj m[j] (ctl := {}) (Nat.zero_le _)
      have r1 := same_lim (h := h2S (sessP X m[j] {}).2 (sessP Z m[j] {}).2) false false (sessP X m[j] {}).1 (sessP X m[j] {}).1 (by omega)
      rw [decide_eq_true rfl] at r1
      generalize h2S (sessP X m[j] {}).2 (sessP Z m[j] {}).2 = H3 at *
      generalize h2S (sessP X m[j] {}).2 Z = H2 at *
      generalize h2S X Z = H1 at *
      generalize (sessP X m[j] {}).1 = r at *
      rcases hz with ⟨rfl, rfl⟩ | ⟨cs, cs', rfl, rfl⟩
      all_goals
        simp -implicitDefEqProofs -dsimp (maxSteps := 1000000) only [go_sem, h2, hlt2, a1, a2, r1, cms_get, nat_nn9]
        refine hN3 (.box [vi r.err, vs r.value, vi r.version, .list false 1 (ts r.names)], .box [vi r.err, vs r.value, vi r.version, .list false 1 (ts r.names)]) _ (by first | omega | (simp only; omega)) ⟨by first | omega | (simp only; omega), .inr ⟨_, _, rfl, rfl⟩⟩ ?_
        simp -implicitDefEqProofs -dsimp only [go_sem, wrap_succ (show j < 9223372036854775807 by omega)]
    · have h2 : ¬ (j : Int) < (m.length : Int) := by omega
      have r1 := ssame2 Oj Yj (by omega) (by omega) Sj
      generalize h2S (sessAll x (m.take j) {}) (sessAll y (m.take j) {}) = H1 at *
      rcases hz with ⟨rfl, rfl⟩ | ⟨cs, cs', rfl, rfl⟩ <;> simp -implicitDefEqProofs -dsimp (maxSteps := 1000000) only [go_sem, wp_RD, h2, r1]
end Go.DS

/-
  The row SessionSnap.
-/
namespace Go.Proofs.YthncbanajpiadaaGreat.sessionSnap
open Go.ChangeShapes Go.WideShapes Go.ChangeAt Go.RowKit
open Go.ChangeMaps (open_string shut_string)
open Go.DS
set_option linter.unusedVariables false
set_option linter.unusedSimpArgs false

set_option maxRecDepth 100000 in
theorem contract (H : Type) (enc : TypeId × Value → H) (W : World) (base : Nat) (args : Array Value) (ds gs : List (DataW H)) (before : List MemPlace)
    (hval0 : ∀ (j : Nat) t v, Tryz.f4.params[j]? = some t → args[j]? = some v → Value.okWide Tryz.prog W .any base t v)
    (hW : DataW.Whole enc Tryz.prog Tryz.f4.params.toList Rows.sessionSnapSpec.vars false W args.toList ds gs before) (hk : Rows.uptoSmall H (ds ++ gs) = true) :
    Calls Tryz.prog 4 args W fun e W' => ∃ v, e = .returned v ∧ Rows.sessionSnapSpec.post enc Tryz.prog Tryz.f4 false true false false W args v W' := by
  have hval : ∀ (j : Nat) t v, Tryz.f4.params[j]? = some t → args[j]? = some v → Value.okWide Tryz.prog W .any base t v := hval0
  have hW' := hW
  obtain ⟨p, q, hA0, hV, rfl, hfz, hnd⟩ := hW
  have hA : DataW.TrodAll enc Tryz.prog W 0 (fun _ => true) true Tryz.f4.params.toList args.toList ds p := hA0
  rw [Tryz.params4] at hA hval
  obtain ⟨v0, vs0, d0, ds0, p0, q0, hargs, rfl, rfl, h0, r0⟩ := trodAll_cons hA
  obtain ⟨v1, vs1, d1, ds1, p1, q1, rfl, rfl, rfl, h1, r1⟩ := trodAll_cons r0
  obtain ⟨rfl, rfl, rfl⟩ := trodAll_nil r1
  obtain rfl : args = #[v0, v1] := by cases args; simp_all
  obtain ⟨rfl, rfl⟩ := trodVars_none hV
  have lt0 : ∀ x ∈ p0, x.block < W.heap.size := by obtain ⟨m, hm⟩ := h0; exact DataW.trod_lt m _ _ _ hm
  have k0 := h0
  obtain ⟨a0, y0, b0⟩ := arg_cmds (B := 1048575) (hval 0 22 v0 rfl rfl) h0 (by have hb := of_decide_eq_true hk; simp only [Rows.uptoBulkAll, List.append_nil, List.cons_append, List.nil_append] at hb; omega)
  have lt1 : ∀ x ∈ p1, x.block < W.heap.size := by obtain ⟨m, hm⟩ := h1; exact DataW.trod_lt m _ _ _ hm
  have k1 := h1
  obtain ⟨a1, y1, b1⟩ := arg_cmds (B := 1048575) (hval 1 22 v1 rfl rfl) h1 (by have hb := of_decide_eq_true hk; simp only [Rows.uptoBulkAll, List.append_nil, List.cons_append, List.nil_append] at hb; omega)
  clear hA0 hval0
  have hb := of_decide_eq_true hk
  simp only [Rows.uptoBulkAll, Rows.uptoBulk, List.append_nil] at hb
  refine (Go.DS.start ext_ok (sessionSnap_lim false false a0 a1 (by have := b0.1; omega) (fun x hx => by have := (b0.2 x hx).path; omega) (by have := b1.1; omega) (fun x hx => by have := (b1.2 x hx).path; omega)) W (vs := #[v0, v1]) (.cons (y0) (.cons (y1) (.nil _)))).mono fun e W' ⟨he, bel⟩ => ?_
  subst he
  exact ⟨_, rfl, _, _, _, [], _, [], hW', trodAll_mk1 (shut_bool Tryz.underlying4 _), (trodAll_cons_mk (Below.trod laidOut' (by kernel_rfl) (of_decide_eq_true (by kernel_rfl)) k0 bel lt0) (trodAll_cons_mk (Below.trod laidOut' (by kernel_rfl) (of_decide_eq_true (by kernel_rfl)) k1 bel lt1) trodAll_mk0)), rfl, bel.frame _, fun h => by cases h⟩

set_option maxRecDepth 100000 in
theorem lifted (os : Os) (started : os.Started) (H : Type) (enc : TypeId × Value → H) (F : Stop.Interp) :
    ReturnsInHanded {} Tryz.checked os 4 .any ((Rows.OpenSpec.upto Rows.sessionSnapSpec).pre6 enc Tryz.prog Tryz.f4 Rows.sessionSnapUptoRow.domain false) (((Rows.OpenSpec.upto Rows.sessionSnapSpec).at F).post enc Tryz.prog Tryz.f4 false true false false) := by
  refine returnsInHanded_of_cond (C := Tryz.checked) (s := Rows.OpenSpec.upto Rows.sessionSnapSpec) (k := Rows.uptoSmall) rfl own' started (by kernel_rfl) Tryz.func4
    (OpenSpec.witness (enc := enc) (C := Tryz.checked) (s := Rows.OpenSpec.upto Rows.sessionSnapSpec) (k := Rows.uptoSmall) rfl false ⟨#[], #[.slice none 0 0, .slice none 0 0], []⟩ 8 (by kernel_rfl) (by kernel_rfl) (by kernel_rfl)
      (x := ([.nil, .nil], [], [])) (by kernel_rfl) rfl (by kernel_rfl)) ?_
  intro W base args ds gs before hval hW _ hk _
  exact contract H enc W base args ds gs before hval hW hk

theorem over : Rows.sessionSnapUptoRow.holds Tryz.pinned (Rows.OpenSpec.upto Rows.sessionSnapSpec) :=
  OpenClaim.holds_of_cond 4 Tryz.f4 rfl rfl rfl rfl rfl rfl rfl ⟨rfl, rfl, rfl, rfl, rfl⟩ rfl rfl rfl rfl rfl (by kernel_rfl) Tryz.func4 (by kernel_rfl)
    (of_decide_eq_true (by kernel_rfl)) (by unfold Func.isWrapper; first | (rw [if_pos (by decide +kernel)]; kernel_rfl) | (rw [if_neg (by decide +kernel)]; exact ⟨rfl, rfl⟩))
    (fun os started H enc _ F => lifted os started H enc F)

theorem proved : Rows.SessionSnapUptoSaid := over
#print axioms proved
end Go.Proofs.YthncbanajpiadaaGreat.sessionSnap
namespace Go.Proofs.YthncbanajpiadaaGreat
theorem sessionSnap_holds : Rows.SessionSnapUptoSaid := sessionSnap.proved
end Go.Proofs.YthncbanajpiadaaGreat
