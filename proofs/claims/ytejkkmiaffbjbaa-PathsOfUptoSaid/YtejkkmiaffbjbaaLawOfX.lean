/-
  Walks: the laws of paths.
-/
import Derived.Test.YtejkkmiaffbjbaaB6
import Derived.Test.YtejkkmiaffbjbaaRows
import Derived.WalkKit
import Derived.ProofKit
import Derived.Deep.Strs
import Derived.OpenShut
import Derived.ShutString
import Derived.ChangeOld
import Derived.Below
import Derived.JoinedCond
import Derived.Carry
set_option linter.unusedSimpArgs false
set_option linter.unusedVariables false
namespace Go.DS
open Go Go.Proofs
set_option maxRecDepth 100000
set_option linter.unusedVariables false
set_option linter.unusedSimpArgs false
def cd16 : Cd := .seq (R [cb 4 (.tk (.c (kb false)))] [0, 1]) (.seq (.seq (R [c0 6 (.mv (.s 0)), c0 7 (.len 1 (.s 6)), c0 8 (.mv (.s 1)), c0 9 (.len 1 (.s 8)), cb 10 (.bin .neq .any (.s 7) (.s 9))] [0, 1, 10]) (.ite (.s 10) (.seq (R [cb 4 (.tk (.c (kb false)))] [4]) (.ret)) (.skip))) (.seq (.seq (R [c0 5 (.tk (.c (ki .i64 0)))] [0, 1, 5]) (.block 0 (LP [0, 1, 5] (.seq (.seq (R [c0 11 (.mv (.s 5)), c0 12 (.mv (.s 0)), c0 13 (.len 1 (.s 12)), cb 14 (.bin .lss .any (.s 11) (.s 13))] [0, 1, 5, 14]) (.ite (.s 14) (.skip) (.exit 0))) (.seq (.block 1 (.seq (RD [cd (some 17) false none (.mv (.s 0)) false false [0], cd (some 18) false none (.mv (.s 5)) false false [5], cd (some 19) false none (.ixp 1 (.s 17) (.s 18)) false false [17, 18], cd (some 20) false none (.ld false 1 (.s 19)) false false [19], cd (some 21) false none (.mv (.s 1)) false false [1], cd (some 22) false none (.mv (.s 5)) false false [5], cd (some 23) false none (.ixp 1 (.s 21) (.s 22)) false false [21, 22], cd (some 24) false none (.ld false 1 (.s 23)) false false [23], cd (some 25) true none (.bin .neq .any (.s 20) (.s 24)) false false [20, 24]] [0, 1, 5, 25] []) (.ite (.s 25) (.seq (R [cb 4 (.tk (.c (kb false)))] [4]) (.ret)) (.skip)))) (R [c0 15 (.mv (.s 5)), c0 16 (.bin .add .any (.s 15) (.c (ki .i64 1))), c0 5 (.tk (.s 16))] [0, 1, 5])))))) (.seq (R [cb 4 (.tk (.c (kb true)))] [4]) (.ret))))
theorem fun16 : Fun Try.prog cfg 16 26 cd16 [.s 4] := ⟨rfl, Try.f16, _, Try.func16, rfl, rfl, by kernel_rfl, by kernel_rfl⟩
@[go_sem] theorem ok16 : calleeOK Try.prog 16 = true := by kernel_rfl
@[go_sem] theorem ex16 : (cfg.ext 16).isSome = false := rfl
def cd3 : Cd := .seq (R [cb 4 (.tk (.c (kb false)))] [0, 1]) (.seq (R [cb 6 (.call none (.c (kf 13)) []), cb 5 (.tk (.s 6))] [0, 1, 5]) (.seq (.seq (R [cb 7 (.mv (.s 5)), cb 8 (.un .not (.s 7))] [0, 1, 5, 8]) (.ite (.s 8) (.seq (R [cb 4 (.tk (.c (kb false)))] [4]) (.ret)) (.skip))) (.seq (.seq (R [c0 9 (.mv (.s 0)), c0 10 (.len 0 (.s 9)), cb 11 (.bin .gtr .any (.s 10) (.c (ki .i64 300))), cb 12 (.mv (.s 11)), cg 13 12 false (.mv (.s 1)), cg 14 12 false (.len 0 (.s 13)), ch 15 12 false (.bin .gtr .any (.s 14) (.c (ki .i64 300))), cb 16 (.pick (.s 12) (.c (kb true)) (.s 15))] [0, 1, 5, 16]) (.ite (.s 16) (.seq (R [cb 17 (.tk (.s 5)), cb 4 (.tk (.s 17))] [4]) (.ret)) (.skip))) (.seq (R [cb 18 (.mv (.s 5)), cb 19 (.mv (.s 18)), cg 20 19 true (.mv (.s 0)), ch 21 19 true (.call none (.c (kf 14)) [(.s 20)]), cg 22 19 true (.mv (.s 0)), ch 23 19 true (.call none (.c (kf 15)) [(.s 22)]), ch 24 19 true (.bin .eql .bool (.s 21) (.s 23)), cb 25 (.pick (.s 19) (.s 24) (.c (kb false))), cb 26 (.mv (.s 25)), cg 27 26 true (.mv (.s 0)), cg 28 26 true (.call none (.c (kf 17)) [(.s 27)]), cg 29 26 true (.mv (.s 0)), cg 30 26 true (.call none (.c (kf 18)) [(.s 29)]), ch 31 26 true (.call none (.c (kf 16)) [(.s 28), (.s 30)]), cb 32 (.pick (.s 26) (.s 31) (.c (kb false))), cb 33 (.mv (.s 32)), cg 34 33 true (.mv (.s 0)), cg 35 33 true (.call none (.c (kf 19)) [(.s 34)]), cg 36 33 true (.mv (.s 0)), cg 37 33 true (.call none (.c (kf 20)) [(.s 36)]), ch 38 33 true (.bin .eql .any (.s 35) (.s 37)), cb 39 (.pick (.s 33) (.s 38) (.c (kb false))), cb 40 (.mv (.s 39)), cg 41 40 true (.mv (.s 0)), cg 42 40 true (.call none (.c (kf 21)) [(.s 41)]), cg 43 40 true (.mv (.s 0)), cg 44 40 true (.call none (.c (kf 22)) [(.s 43)]), ch 45 40 true (.bin .eql .any (.s 42) (.s 44)), cb 46 (.pick (.s 40) (.s 45) (.c (kb false))), cb 47 (.mv (.s 46)), cg 48 47 true (.mv (.s 0)), cg 49 47 true (.call none (.c (kf 23)) [(.s 48)]), cg 50 47 true (.mv (.s 0)), cg 51 47 true (.call none (.c (kf 24)) [(.s 50)]), ch 52 47 true (.bin .eql .any (.s 49) (.s 51)), cb 53 (.pick (.s 47) (.s 52) (.c (kb false))), cb 54 (.mv (.s 53)), cg 55 54 true (.mv (.s 0)), cg 56 54 true (.mv (.s 1)), ch 57 54 true (.call none (.c (kf 25)) [(.s 55), (.s 56)]), cg 58 54 true (.mv (.s 0)), cg 59 54 true (.mv (.s 1)), ch 60 54 true (.call none (.c (kf 26)) [(.s 58), (.s 59)]), ch 61 54 true (.bin .eql .bool (.s 57) (.s 60)), cb 62 (.pick (.s 54) (.s 61) (.c (kb false))), cb 63 (.mv (.s 62)), cg 64 63 true (.mv (.s 0)), cg 65 63 true (.mv (.s 1)), ch 66 63 true (.call none (.c (kf 27)) [(.s 64), (.s 65)]), cg 67 63 true (.mv (.s 0)), cg 68 63 true (.mv (.s 1)), ch 69 63 true (.call none (.c (kf 28)) [(.s 67), (.s 68)]), ch 70 63 true (.bin .eql .bool (.s 66) (.s 69)), cb 71 (.pick (.s 63) (.s 70) (.c (kb false))), cb 4 (.tk (.s 71))] [4]) (.ret)))))
theorem fun3 : Fun Try.prog cfg 3 72 cd3 [.s 4] := ⟨rfl, Try.f3, _, Try.func3, rfl, rfl, by kernel_rfl, by kernel_rfl⟩
@[go_sem] theorem ok3 : calleeOK Try.prog 3 = true := by kernel_rfl
@[go_sem] theorem ex3 : (cfg.ext 3).isSome = false := rfl
def cd4 : Cd := .seq (R [cb 2 (.tk (.c (kb false)))] [0]) (.seq (R [cb 8 (.call none (.c (kf 13)) []), cb 3 (.tk (.s 8))] [0, 3]) (.seq (.seq (R [cb 9 (.mv (.s 3)), cb 10 (.un .not (.s 9))] [0, 3, 10]) (.ite (.s 10) (.seq (R [cb 2 (.tk (.c (kb false)))] [2]) (.ret)) (.skip))) (.seq (.seq (R [c0 11 (.mv (.s 0)), c0 12 (.len 1 (.s 11)), cb 13 (.bin .gtr .any (.s 12) (.c (ki .i64 300)))] [0, 3, 13]) (.ite (.s 13) (.seq (R [cb 14 (.tk (.s 3)), cb 2 (.tk (.s 14))] [2]) (.ret)) (.skip))) (.seq (R [c0 16 (.mv (.s 0)), c0 17 (.call none (.c (kf 29)) [(.s 16)]), c0 15 (.mv (.s 17)), c0 18 (.ext (.s 15) 0), c0 19 (.ext (.s 15) 1), c0 4 (.tk (.s 18)), c0 5 (.tk (.s 19))] [0, 3, 4, 5]) (.seq (R [c0 21 (.mv (.s 0)), c0 22 (.call none (.c (kf 30)) [(.s 21)]), c0 20 (.mv (.s 22)), c0 23 (.ext (.s 20) 0), c0 24 (.ext (.s 20) 1), c0 6 (.tk (.s 23)), c0 7 (.tk (.s 24))] [0, 3, 4, 5, 6, 7]) (.seq (R [cb 25 (.mv (.s 3)), cb 26 (.mv (.s 25)), cg 27 26 true (.mv (.s 4)), cg 28 26 true (.mv (.s 6)), ch 29 26 true (.bin .eql .any (.s 27) (.s 28)), cb 30 (.pick (.s 26) (.s 29) (.c (kb false))), cb 31 (.mv (.s 30)), cg 32 31 true (.mv (.s 5)), cg 33 31 true (.mv (.s 7)), ch 34 31 true (.bin .eql .any (.s 32) (.s 33)), cb 35 (.pick (.s 31) (.s 34) (.c (kb false))), cb 36 (.mv (.s 35)), cg 37 36 true (.mv (.s 5)), ch 38 36 true (.bin .neq .any (.s 37) (.c (ki .i64 0))), ch 39 36 true (.mv (.s 38)), cg 40 39 false (.mv (.s 4)), cg 41 39 false (.call none (.c (kf 17)) [(.s 40)]), cg 42 39 false (.mv (.s 0)), ch 43 39 false (.call none (.c (kf 16)) [(.s 41), (.s 42)]), ch 44 39 false (.mv (.s 43)), cg 45 44 true (.mv (.s 4)), ch 46 44 true (.call none (.c (kf 14)) [(.s 45)]), ch 47 39 false (.pick (.s 44) (.s 46) (.c (kb false))), ch 48 36 true (.pick (.s 39) (.c (kb true)) (.s 47)), cb 49 (.pick (.s 36) (.s 48) (.c (kb false))), cb 2 (.tk (.s 49))] [2]) (.ret)))))))
theorem fun4 : Fun Try.prog cfg 4 50 cd4 [.s 2] := ⟨rfl, Try.f4, _, Try.func4, rfl, rfl, by kernel_rfl, by kernel_rfl⟩
@[go_sem] theorem ok4 : calleeOK Try.prog 4 = true := by kernel_rfl
@[go_sem] theorem ex4 : (cfg.ext 4).isSome = false := rfl
@[go_sem] theorem ok13 : calleeOK Try.prog 13 = true := by kernel_rfl
@[go_sem] theorem ex13 : (cfg.ext 13).isSome = false := rfl
variable {h : DHeap}
theorem works_lim : lim Try.prog cfg 13 [] h = some (vb true, h) := lim_of (n := 60) (by kernel_rfl)
theorem texts_lim (o1 o2 : Bool) (l m : List Str) (hl : l.length ≤ 1099511627776) : lim Try.prog cfg 16 [vts o1 l, vts o2 m] h = some (vb (decide (l = m)), h) := by
  refine lim_funp fun16 rfl (by simp) (by simp [heapFree, free_ts]) rfl ?_
  delta cd16
  simp -implicitDefEqProofs -dsimp only [go_sem]
  refine ⟨fun h1 => ?_, fun h1 => ?_⟩
  · have hlen : l.length = m.length := by omega
    refine wp_for (σ := Nat) (fun k => [(0, vts false l), (1, vts false m), (5, vi (k : Nat))]) (fun _ => []) (fun k => l.length - k) (fun k => k ≤ l.length ∧ l.take k = m.take k) 0 (by simp) rfl rfl ?_
    rintro k ⟨hk, hj⟩ N hN
    simp -implicitDefEqProofs -dsimp only [go_sem]
    refine ⟨fun h2 => ⟨by omega, by omega, fun h3 => ?_, fun h3 => ?_⟩, fun h2 => ?_⟩
    · refine hN (k + 1) _ (by omega) ⟨by omega, ?_⟩ (by simp -implicitDefEqProofs -dsimp only [go_sem, wrap_succ (show k < 9223372036854775807 by omega)])
      rw [List.take_succ_eq_append_getElem (by omega), List.take_succ_eq_append_getElem (by omega), hj, h3]
    · have : l ≠ m := fun e => by subst e; exact h3 rfl
      simp [this]
    · have : k = l.length := by omega
      subst this
      rw [List.take_length, hlen, List.take_length] at hj
      simp [hj]
  · have : l ≠ m := fun e => by subst e; exact h1 rfl
    simp [this]

theorem pathsTells_lim (p q : Str) (hp : p.length ≤ 1048575) (hq : q.length ≤ 1048575) : lim Try.prog cfg 3 [vs p, vs q] h = some (vb true, h) := by
  refine lim_funp fun3 rfl (by simp) rfl rfl ?_
  delta cd3
  have w := works_lim (h := [])
  have a1 := valid_lim (h := []) p (by omega)
  have a2 := rvalid_lim (h := []) p hp
  have b1 := names_lim (h := []) p (by omega)
  have b2 := rnames_lim (h := []) p hp
  have b3 := texts_lim (h := []) false false (namesP p) (namesP p) (by have := names_le p; omega)
  have c1 := depth_lim (h := []) p (by omega)
  have c2 := rdepth_lim (h := []) p hp
  have d1 := parent_lim (h := []) p (by omega)
  have d2 := rparent_lim (h := []) p hp
  have e1 := last_lim (h := []) p (by omega)
  have e2 := rlast_lim (h := []) p hp
  have f1 := below_lim (h := []) p q (by omega) (by omega)
  have f2 := rbelow_lim (h := []) p q hp hq
  have g1 := less_lim (h := []) p q (by omega) (by omega)
  have g2 := rless_lim (h := []) p q hp hq
  generalize (parse p).isSome = x at a1 a2
  generalize belowP p q = y at f1 f2
  generalize lessP p q = z at g1 g2
  cases x <;> cases y <;> cases z <;> simp -implicitDefEqProofs -dsimp only [go_sem, w, a1, a2, b1, b2, b3, c1, c2, d1, d2, e1, e2, f1, f2, g1, g2, BEq.rfl]
theorem pathsOf_lim (own : Bool) (l : List Str) (hl : l.length ≤ 1048576) (hs : ∀ s ∈ l, s.length ≤ 1048576) : lim Try.prog cfg 4 [vts own l] h = some (vb true, h) := by
  refine lim_funp fun4 rfl (by simp) (by simp [heapFree, free_ts]) rfl ?_
  delta cd4
  have w := works_lim (h := [])
  have a1 := pof_lim (h := []) false l hl (fun s h => by have := hs s h; omega)
  have a2 := rof_lim (h := []) false l hl (fun s h => by have := hs s h; omega)
  by_cases hok : okL l = true
  · have hv : ofV l = .tup [vs (pathOf l), vi 0] := if_pos hok
    have hle := path_len hok
    have hn : namesP (pathOf l) = l := by simp [namesP, parse_pathOf hok]
    have hz : (parse (pathOf l)).isSome = true := by simp [parse_pathOf hok]
    have b1 := names_lim (h := []) (pathOf l) (by omega)
    have b2 := valid_lim (h := []) (pathOf l) (by omega)
    have b3 := texts_lim (h := []) false false l l (by omega)
    simp -implicitDefEqProofs -dsimp only [go_sem, w, a1, a2, hv, b1, b2, b3, hn, hz]
  · have hv : ofV l = .tup [vs [], vi 1] := if_neg hok
    simp -implicitDefEqProofs -dsimp only [go_sem, w, a1, a2, hv]
end Go.DS

/-
  Arguments, opened: lists of texts.
-/
namespace Go.DS
open Go Go.Proofs Go.ChangeShapes Go.WideShapes Go.RowKit Go.Proofs.Ytejkkmiaffbjbaa Go.Deep
set_option linter.unusedVariables false
set_option linter.unusedSimpArgs false

theorem own' : ownKnob Try.prog.godebug = none := by kernel_rfl
theorem laidOut' : laidOutB Try.prog = true := by kernel_rfl
theorem bulk_get {H : Type} : ∀ {l : List (DataW H)} {d : DataW H}, d ∈ l → Rows.uptoBulk d ≤ Rows.uptoBulkAll l
  | x :: l, d, h => by
    simp only [Rows.uptoBulkAll]
    rcases List.mem_cons.1 h with rfl | h
    · omega
    · have := bulk_get h; omega
theorem bulk_pos {H : Type} (d : DataW H) : 1 ≤ Rows.uptoBulk d := by
  cases d <;> try (simp [Rows.uptoBulk]; done)
  rename_i l; cases l <;> simp [Rows.uptoBulk]
theorem bulk_len {H : Type} : ∀ (l : List (DataW H)), l.length ≤ Rows.uptoBulkAll l
  | [] => Nat.le_refl _
  | d :: l => by
    have := bulk_len l
    have := bulk_pos d
    simp only [Rows.uptoBulkAll, List.length_cons]; omega

theorem strs_rel {H : Type} {enc : TypeId × Value → H} {P : Program} {W : World} {held : Bool} {t e : TypeId} {a : Option Addr} {len cap : Nat} {d : DataW H} {ps : List MemPlace} (ht : P.underlying t = some (.slice e)) (he : P.underlying e = some .string) (hc : P.cellsOf e = 1)
    (h : DataW.Trod enc P W 0 (fun _ => true) held t (.slice a len cap) d ps) :
    ∃ l : List Str, RelV (gh0 W) (.list false 1 (ts l)) (.slice a len cap) ∧ l.length < Rows.uptoBulk d ∧ ∀ s ∈ l, s.length < Rows.uptoBulk d := by
  obtain ⟨fuel, hf⟩ := h
  rcases open_strs ht he hc hf with ⟨hcs, hx⟩ | ⟨ad, len', cap', m, Sx, hcs, _, hl, hm, hmm, hx, hcell⟩
  · simp [Value.cells] at hcs
    obtain ⟨rfl, rfl, rfl⟩ := hcs
    refine ⟨[], .empty, ?_, by simp⟩
    exact bulk_pos d
  · simp [Value.cells] at hcs
    obtain ⟨rfl, rfl, rfl⟩ := hcs
    have hlm : len ≤ m := by rw [hmm]; simp; exact hl
    have hd : d = .slice ((List.range len).map fun i => .lit (.string (Sx i).data.toList)) ((List.range (m - len)).map fun j => .lit (.string (Sx (len + j)).data.toList)) := by
      simpa using congrArg Prod.fst hx
    refine ⟨(List.range len).map fun i => bs (Sx i), ?_, ?_, ?_⟩
    · have hts : ts ((List.range len).map fun i => bs (Sx i)) = (List.range len).map fun i => [DV.sc (.string (Sx i))] := by
        simp only [ts, List.map_map]; rfl
      have hfl : ((List.range len).map fun i => [DV.sc (.string (Sx i))]).flatten = (List.range len).map fun i => DV.sc (.string (Sx i)) := by
        generalize List.range len = r
        induction r with
        | nil => rfl
        | cons x r ih => simp only [List.map_cons, List.flatten_cons, ih]; rfl
      have hlen : ((List.range len).map fun i => [DV.sc (.string (Sx i))]).length = len := by simp
      obtain ⟨b, off, g⟩ := ad
      show RelV (gh0 W) (.list false 1 (ts _)) _
      rw [hts]
      by_cases hz : len = 0
      · subst hz
        exact .empty
      · have hgn : g = none := by
          have := (hcell 0 (by omega)).1
          cases g with
          | none => rfl
          | some _ =>
            simp [World.cell?, Addr.add] at this
            split at this <;> simp at this
        subst hgn
        have hg : ∀ i, i < m → W.cell? ⟨b, off + i, none⟩ = some (.string (Sx i)) := fun i hi => by
          have := (hcell i hi).1
          by_cases hi0 : i = 0
          · subst hi0; simpa [Addr.add] using this
          · simpa [Addr.add, hi0] using this
        have := RelV.list (g := gh0 W) (own := false) (es := 1) (l := (List.range len).map fun i => [DV.sc (.string (Sx i))]) (cap := cap) (b := b) (off := off) (vs := (List.range len).map fun i => Value.string (Sx i)) (by simpa using hl) (by simp)
          (by rw [hfl]; simp) (by
            rw [hfl]
            intro k x v hx hv
            rw [List.getElem?_map] at hx hv
            cases hr : (List.range len)[k]? with
            | none => rw [hr] at hx; cases hx
            | some i => rw [hr] at hx hv; cases hx; cases hv; exact .sc _) (by
            intro k v hv
            rw [List.getElem?_map] at hv
            cases hr : (List.range len)[k]? with
            | none => rw [hr] at hv; cases hv
            | some i =>
              rw [hr] at hv; cases hv
              obtain ⟨hk, rfl⟩ := List.getElem?_eq_some_iff.1 hr
              simp only [List.getElem_range]
              simp only [List.length_range] at hk
              exact gh0_pc (hg k (by omega)) rfl)
        rwa [hlen] at this
    · rw [hd]
      have := bulk_len ((List.range len).map fun i => (DataW.lit (.string (Sx i).data.toList) : DataW H))
      simp only [Rows.uptoBulk, List.length_map, List.length_range] at this ⊢
      omega
    · intro s hs
      obtain ⟨i, hi, rfl⟩ := List.mem_map.1 hs
      have := bulk_get (H := H) (List.mem_map_of_mem (f := fun i => (DataW.lit (.string (Sx i).data.toList) : DataW H)) hi)
      rw [hd]
      simp only [Rows.uptoBulk] at this ⊢
      show (Sx i).data.toList.length < _
      omega
end Go.DS

/-
  The row PathsOf.
-/
namespace Go.Proofs.Ytejkkmiaffbjbaa.pathsOf
open Go.ChangeShapes Go.WideShapes Go.ChangeAt Go.RowKit
open Go.ChangeMaps (open_string shut_string)
open Go.DS
set_option linter.unusedVariables false
set_option linter.unusedSimpArgs false

theorem contract (H : Type) (enc : TypeId × Value → H) (W : World) (base : Nat) (args : Array Value) (ds gs : List (DataW H)) (before : List MemPlace)
    (hval0 : ∀ (j : Nat) t v, Try.f4.params[j]? = some t → args[j]? = some v → Value.okWide Try.prog W .any base t v)
    (hW : DataW.Whole enc Try.prog Try.f4.params.toList Rows.pathsOfSpec.vars false W args.toList ds gs before) (hk : Rows.uptoSmall H (ds ++ gs) = true) :
    Calls Try.prog 4 args W fun e W' => ∃ v, e = .returned v ∧ Rows.pathsOfSpec.post enc Try.prog Try.f4 false true false false W args v W' := by
  have hval : ∀ (j : Nat) t v, Try.f4.params[j]? = some t → args[j]? = some v → Value.okWide Try.prog W .any base t v := hval0
  have hW' := hW
  obtain ⟨p, q, hA0, hV, rfl, hfz, hnd⟩ := hW
  have hA : DataW.TrodAll enc Try.prog W 0 (fun _ => true) true Try.f4.params.toList args.toList ds p := hA0
  rw [Try.params4] at hA hval
  obtain ⟨v0, vs0, d0, ds0, p0, q0, hargs, rfl, rfl, h0, r0⟩ := trodAll_cons hA
  obtain ⟨rfl, rfl, rfl⟩ := trodAll_nil r0
  obtain rfl : args = #[v0] := by cases args; simp_all
  obtain ⟨rfl, rfl⟩ := trodVars_none hV
  have lt0 : ∀ x ∈ p0, x.block < W.heap.size := by obtain ⟨m, hm⟩ := h0; exact DataW.trod_lt m _ _ _ hm
  have k0 := h0
  obtain ⟨a0, len0, cap0, rfl⟩ := okWide_slice Try.underlying25 (hval 0 25 v0 rfl rfl)
  obtain ⟨l0, y0, n0, s0⟩ := strs_rel Try.underlying25 Try.underlying9 (by kernel_rfl) h0
  clear hA0 hval0
  have hb := of_decide_eq_true hk
  simp only [Rows.uptoBulkAll, Rows.uptoBulk, List.append_nil] at hb
  have b0 : l0.length ≤ 1048575 ∧ ∀ s ∈ l0, s.length ≤ 1048575 := ⟨by omega, fun s hs => by have := s0 s hs; omega⟩
  refine (Go.DS.start ext_ok (pathsOf_lim false l0 (by omega) (fun s hs => by have := b0.2 s hs; omega)) W (vs := #[.slice a0 len0 cap0]) (.cons (y0) (.nil _))).mono fun e W' ⟨he, bel⟩ => ?_
  subst he
  exact ⟨_, rfl, _, _, _, [], _, [], hW', trodAll_mk1 (shut_bool Try.underlying4 _), (trodAll_cons_mk (Below.trod laidOut' (by kernel_rfl) (of_decide_eq_true (by kernel_rfl)) k0 bel lt0) trodAll_mk0), rfl, bel.frame _, fun h => by cases h⟩

set_option maxRecDepth 100000 in
theorem lifted (os : Os) (started : os.Started) (H : Type) (enc : TypeId × Value → H) (F : Stop.Interp) :
    ReturnsInHanded {} Try.checked os 4 .any ((Rows.OpenSpec.upto Rows.pathsOfSpec).pre6 enc Try.prog Try.f4 Rows.pathsOfUptoRow.domain false) (((Rows.OpenSpec.upto Rows.pathsOfSpec).at F).post enc Try.prog Try.f4 false true false false) := by
  refine returnsInHanded_of_cond (C := Try.checked) (s := Rows.OpenSpec.upto Rows.pathsOfSpec) (k := Rows.uptoSmall) rfl own' started (by kernel_rfl) Try.func4
    (OpenSpec.witness (enc := enc) (C := Try.checked) (s := Rows.OpenSpec.upto Rows.pathsOfSpec) (k := Rows.uptoSmall) rfl false ⟨#[], #[.slice none 0 0], []⟩ 8 (by kernel_rfl) (by kernel_rfl) (by kernel_rfl)
      (x := ([.nil], [], [])) (by kernel_rfl) rfl (by kernel_rfl)) ?_
  intro W base args ds gs before hval hW _ hk _
  exact contract H enc W base args ds gs before hval hW hk

theorem over : Rows.pathsOfUptoRow.holds Try.pinned (Rows.OpenSpec.upto Rows.pathsOfSpec) :=
  OpenClaim.holds_of_cond 4 Try.f4 rfl rfl rfl rfl rfl rfl rfl ⟨rfl, rfl, rfl, rfl, rfl⟩ rfl rfl rfl rfl rfl (by kernel_rfl) Try.func4 (by kernel_rfl)
    (of_decide_eq_true (by kernel_rfl)) (by unfold Func.isWrapper; first | (rw [if_pos (by decide +kernel)]; kernel_rfl) | (rw [if_neg (by decide +kernel)]; exact ⟨rfl, rfl⟩))
    (fun os started H enc _ F => lifted os started H enc F)

theorem proved : Rows.PathsOfUptoSaid := over
#print axioms proved
end Go.Proofs.Ytejkkmiaffbjbaa.pathsOf
namespace Go.Proofs.Ytejkkmiaffbjbaa
theorem pathsOf_holds : Rows.PathsOfUptoSaid := pathsOf.proved
end Go.Proofs.Ytejkkmiaffbjbaa
