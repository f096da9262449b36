/-
  Walks: the law AcceptSet.
-/
import Derived.Test.YtfmhhincdemhdaaGreatH9
import Derived.WalkKit
import Derived.ProofKit
import Derived.OpenShut
import Derived.ShutString
import Derived.ChangeOld
import Derived.Below
import Derived.JoinedCond
import Derived.Carry
set_option linter.unusedSimpArgs false
set_option linter.unusedVariables false
namespace Go.DS
open Go Go.Proofs
set_option maxRecDepth 100000
set_option linter.unusedVariables false
set_option linter.unusedSimpArgs false
def cd6 : Cd := .seq (R [c0 5 (.new false (.s 1)), cb 8 (.tk (.c (kb false)))] [0, 2, 3, 5]) (.seq (R [cb 17 (.call none (.c (kf 11)) []), cb 9 (.tk (.s 17))] [0, 2, 3, 5, 9]) (.seq (.seq (R [cb 18 (.mv (.s 9)), cb 19 (.un .not (.s 18))] [0, 2, 3, 5, 9, 19]) (.ite (.s 19) (.seq (R [cb 8 (.tk (.c (kb false)))] [5, 8]) (.ret)) (.skip))) (.seq (.seq (R [c0 20 (.mv (.s 2)), cb 21 (.call none (.c (kf 12)) [(.s 20)]), cb 22 (.mv (.s 21)), cg 23 22 false (.mv (.s 3)), ch 24 22 false (.call none (.c (kf 12)) [(.s 23)]), cb 25 (.pick (.s 22) (.c (kb true)) (.s 24)), cb 26 (.mv (.s 25)), cg 27 26 false (.mov 1 (.s 5)), cg 28 26 false (.ld false 3 (.s 27)), cg 29 26 false (.len 1 (.s 28)), ch 30 26 false (.bin .gtr .any (.s 29) (.c (ki .i64 40))), cb 31 (.pick (.s 26) (.c (kb true)) (.s 30))] [0, 2, 3, 5, 9, 31]) (.ite (.s 31) (.seq (R [cb 32 (.mv (.s 9)), cb 8 (.tk (.s 32))] [5, 8]) (.ret)) (.skip))) (.seq (R [c0 33 (.mv (.s 0)), c0 34 (.ld true 2 (.s 5)), c0 35 (.call none (.c (kf 13)) [(.s 33), (.s 34)]), c0 10 (.tk (.s 35))] [0, 2, 3, 5, 9, 10]) (.seq (.seq (R [c0 11 (.tk (.c (ki .i64 0)))] [0, 2, 3, 5, 9, 10, 11]) (.block 0 (LP [0, 2, 3, 5, 9, 10, 11] (.seq (.seq (R [c0 36 (.mv (.s 11)), c0 37 (.mv (.s 2)), c0 38 (.len 1 (.s 37)), cb 39 (.bin .lss .any (.s 36) (.s 38))] [0, 2, 3, 5, 9, 10, 11, 39]) (.ite (.s 39) (.skip) (.exit 0))) (.seq (.block 1 (R [c0 42 (.mv (.s 10)), c0 43 (.mv (.s 2)), c0 44 (.mv (.s 11)), c0 45 (.ixp 27 (.s 43) (.s 44)), c0 46 (.ld true 27 (.s 45)), c0 47 (.call none (.c (kf 16)) [(.s 42), (.s 46)])] [0, 2, 3, 5, 9, 10, 11])) (R [c0 40 (.mv (.s 11)), c0 41 (.bin .add .any (.s 40) (.c (ki .i64 1))), c0 11 (.tk (.s 41))] [0, 2, 3, 5, 9, 10, 11])))))) (.seq (R [c0 48 (.mv (.s 0)), c0 49 (.ld true 2 (.s 5)), c0 50 (.call none (.c (kf 13)) [(.s 48), (.s 49)]), c0 12 (.tk (.s 50))] [3, 5, 9, 10, 12]) (.seq (R [c0 51 (.mv (.s 10)), c0 52 (.call none (.c (kf 22)) [(.s 51)]), c0 13 (.tk (.s 52))] [3, 5, 9, 10, 12, 13]) (.seq (.seq (R [c0 14 (.tk (.c (ki .i64 0)))] [3, 5, 9, 10, 12, 13, 14]) (.block 2 (LP [3, 5, 9, 10, 12, 13, 14] (.seq (.seq (R [c0 53 (.mv (.s 14)), c0 54 (.mv (.s 13)), c0 55 (.len 1 (.s 54)), cb 56 (.bin .lss .any (.s 53) (.s 55))] [3, 5, 9, 10, 12, 13, 14, 56]) (.ite (.s 56) (.skip) (.exit 2))) (.seq (.block 3 (RD [cd (some 59) false none (.mv (.s 12)) false false [12], cd (some 60) false none (.mv (.s 13)) false false [13], cd (some 61) false none (.mv (.s 14)) false false [14], cd (some 62) false none (.ixp 3 (.s 60) (.s 61)) false false [60, 61], cd (some 63) false none (.ld true 3 (.s 62)) false false [62], cd (some 64) false none (.mv (.s 10)) false false [10], cd (some 65) false none (.mv (.s 13)) false false [13], cd (some 66) false none (.mv (.s 14)) false false [14], cd (some 67) false none (.ixp 3 (.s 65) (.s 66)) false false [65, 66], cd (some 68) false none (.ld true 3 (.s 67)) false false [67], cd (some 69) false none (.call none (.c (kf 20)) [(.s 64), (.s 68)]) false false [64, 68], cd (some 70) false none (.call none (.c (kf 27)) [(.s 59), (.s 63), (.s 69)]) false false [59, 63, 69]] [3, 5, 9, 10, 12, 13, 14] [124])) (R [c0 57 (.mv (.s 14)), c0 58 (.bin .add .any (.s 57) (.c (ki .i64 1))), c0 14 (.tk (.s 58))] [3, 5, 9, 10, 12, 13, 14])))))) (.seq (.seq (R [c0 71 (.mv (.s 12)), c0 72 (.call none (.c (kf 22)) [(.s 71)]), c0 73 (.mv (.s 13)), cb 74 (.call none (.c (kf 28)) [(.s 72), (.s 73)]), cb 75 (.un .not (.s 74))] [3, 5, 9, 10, 12, 75]) (.ite (.s 75) (.seq (R [cb 8 (.tk (.c (kb false)))] [5, 8]) (.ret)) (.skip))) (.seq (.seq (R [c0 15 (.tk (.c (ki .i64 0)))] [3, 5, 9, 10, 12, 15]) (.block 4 (LP [3, 5, 9, 10, 12, 15] (.seq (.seq (R [c0 76 (.mv (.s 15)), c0 77 (.mv (.s 3)), c0 78 (.len 1 (.s 77)), cb 79 (.bin .lss .any (.s 76) (.s 78))] [3, 5, 9, 10, 12, 15, 79]) (.ite (.s 79) (.skip) (.exit 4))) (.seq (.block 5 (.seq (RD [cd (some 82) false none (.mv (.s 10)) false false [10], cd (some 83) false none (.mv (.s 3)) false false [3], cd (some 84) false none (.mv (.s 15)) false false [15], cd (some 85) false none (.ixp 27 (.s 83) (.s 84)) false false [83, 84], cd (some 86) false none (.ld true 27 (.s 85)) false false [85], cd (some 87) false none (.call none (.c (kf 16)) [(.s 82), (.s 86)]) false false [82, 86], cd (some 88) false none (.mv (.s 12)) false false [12], cd (some 89) false none (.mv (.s 3)) false false [3], cd (some 90) false none (.mv (.s 15)) false false [15], cd (some 91) false none (.ixp 27 (.s 89) (.s 90)) false false [89, 90], cd (some 92) false none (.ld true 27 (.s 91)) false false [91], cd (some 93) false none (.call none (.c (kf 16)) [(.s 88), (.s 92)]) false false [88, 92], cd (some 94) true none (.call none (.c (kf 18)) [(.s 87), (.s 93)]) false false [87, 93], cd (some 16) true none (.mv (.s 94)) false false [94]] [3, 5, 9, 10, 12, 15, 16] [182]) (.seq (R [cb 95 (.mv (.s 16)), cb 96 (.un .not (.s 95))] [3, 5, 9, 10, 12, 15, 96]) (.ite (.s 96) (.seq (R [cb 8 (.tk (.c (kb false)))] [5, 8]) (.ret)) (.skip))))) (R [c0 80 (.mv (.s 15)), c0 81 (.bin .add .any (.s 80) (.c (ki .i64 1))), c0 15 (.tk (.s 81))] [3, 5, 9, 10, 12, 15])))))) (.seq (R [cb 97 (.mv (.s 9)), cb 8 (.tk (.s 97))] [5, 8]) (.ret))))))))))))
theorem fun6 : Fun Tryz.prog cfg 6 98 cd6 [.s 8] := ⟨rfl, Tryz.f6, _, Tryz.func6, rfl, rfl, by kernel_rfl, by kernel_rfl⟩
@[go_sem] theorem ok6 : calleeOK Tryz.prog 6 = true := by kernel_rfl
@[go_sem] theorem ex6 : (cfg.ext 6).isSome = false := rfl
variable {h : DHeap}
theorem SameB.all {a b : Bk} (h : SameB a b) (l : List Mes) : SameB (hearAll a l) (hearAll b l) := by
  induction l generalizing a b with
  | nil => exact h
  | cons m l ih => exact ih (h.hear m).2
abbrev HN2 (a b : Bk) : DHeap := [bookM a, .cells [vi a.node, vi a.con.epoch, .list false 1 (vnums a.con.nodes), .mp 0], bookM b, .cells [vi b.node, vi b.con.epoch, .list false 1 (vnums b.con.nodes), .mp 2]]
theorem atN2a (a b : Bk) : AtB (HN2 a b) 1 0 a := ⟨rfl, rfl⟩
theorem atN2b (a b : Bk) : AtB (HN2 a b) 3 2 b := ⟨rfl, rfl⟩
theorem hbN2 (a b : Bk) : HBb (HN2 a b) := by
  have h1 := below_book (HN2 a b).length a
  have h2 := below_book (HN2 a b).length b
  have h3 : belowO (HN2 a b).length (.cells [vi a.node, vi a.con.epoch, .list false 1 (vnums a.con.nodes), .mp 0]) = true := by
    simp only [belowO, below, below.all, below_vnums, List.all_cons, List.all_nil, Bool.and_true, Bool.true_and]
    rfl
  have h4 : belowO (HN2 a b).length (.cells [vi b.node, vi b.con.epoch, .list false 1 (vnums b.con.nodes), .mp 2]) = true := by
    simp only [belowO, below, below.all, below_vnums, List.all_cons, List.all_nil, Bool.and_true, Bool.true_and]
    rfl
  unfold HBb
  rw [List.all_cons, h1, List.all_cons, h3, List.all_cons, h2, List.all_cons, h4]
  rfl
theorem new2_lim (a : Bk) (node : Int) (c : Con) (hl : c.nodes.length ≤ 1048576) : lim Tryz.prog cfg 13 [vi node, .agg [vi c.epoch, .list false 1 (vnums c.nodes)]] (HN a) = some (.ptr 3 0, HN2 a ⟨node, c, []⟩) := new_lim (h := HN a) node c hl
theorem setN2a {a a' b : Bk} (h1 : a'.con = a.con) (h2 : a'.node = a.node) : (HN2 a b).set 0 (bookM a') = HN2 a' b := by
  show [bookM a', _, _, _] = [bookM a', _, _, _]
  rw [h1, h2]
theorem setN2b {a b b' : Bk} (h1 : b'.con = b.con) (h2 : b'.node = b.node) : (HN2 a b).set 2 (bookM b') = HN2 a b' := by
  show [_, _, bookM b', _] = [_, _, bookM b', _]
  rw [h1, h2]
theorem hear2a_lim {n : Nat} {a : Bk} (b : Bk) (O : BkOK n a) (hn : n ≤ 99999) (hc : a.con.nodes.length ≤ 1048576) (m : Mes) (hm : MesOK m) :
    ∃ o, lim Tryz.prog cfg 16 [.ptr 1 0, mesD m] (HN2 a b) = some (.list o 27 (mess (hearB a m).1), HN2 (hearB a m).2 b) := by
  obtain ⟨o, e, h⟩ := hear_lim (atN2a a b) O (hbN2 a b) hn hc m hm
  rw [setN2a (hear_con a m).1 (hear_con a m).2] at e
  exact ⟨o, e⟩
theorem hear2b_lim {n : Nat} (a : Bk) {b : Bk} (O : BkOK n b) (hn : n ≤ 99999) (hc : b.con.nodes.length ≤ 1048576) (m : Mes) (hm : MesOK m) :
    ∃ o, lim Tryz.prog cfg 16 [.ptr 3 0, mesD m] (HN2 a b) = some (.list o 27 (mess (hearB b m).1), HN2 a (hearB b m).2) := by
  obtain ⟨o, e, h⟩ := hear_lim (atN2b a b) O (hbN2 a b) hn hc m hm
  rw [setN2b (hear_con b m).1 (hear_con b m).2] at e
  exact ⟨o, e⟩
theorem set2b_lim (a b : Bk) (id : Id) (x : Ins) (hx : x.att.deps.length ≤ 1048576) : lim Tryz.prog cfg 27 [.ptr 3 0, .agg [vi id.e, vi id.n, vi id.k], insD x] (HN2 a b) = some (.tup [], HN2 a (setB b id x)) := by
  have e := set_lim (atN2b a b) id x hx
  rw [setN2b (b := b) (b' := setB b id x) rfl rfl] at e
  exact e
theorem id_at {l : List Id} {k : Nat} (hk : k < l.length) (N : List DV → Prop) : IdxP (idr l) (Nf (k : Int)) N = N [vi l[k].e, vi l[k].n, vi l[k].k] := by
  show IdxP (idr l) (k : Int) N = _
  rw [idxP_idr]
  simp [IdxP, hk]
set_option maxHeartbeats 8000000 in
theorem acceptSet_lim (node : Int) (c : Con) (l more : List Mes) : lim Tryz.prog cfg 6 [vi node, .agg [vi c.epoch, .list false 1 (vnums c.nodes)], .list false 27 (mess l), .list false 27 (mess more)] h = some (vb true, h) := by
  refine lim_funp fun6 rfl (by simp) (by simp [heapFree, heapFree.all, free_vnums, free_mess, free_idr, free_pes, free_pss]) rfl ?_
  delta cd6
  have w := works15_lim (h := [])
  have o1 := over15_lim (h := []) false l
  have o2 := over15_lim (h := []) false more
  cases d1 : overM l with
  | true => rw [d1] at o1; simp -implicitDefEqProofs -dsimp (maxSteps := 300000) only [go_sem, w, o1]
  | false =>
  rw [d1] at o1
  cases d2 : overM more with
  | true => rw [d2] at o2; simp -implicitDefEqProofs -dsimp (maxSteps := 300000) only [go_sem, w, o1, o2]
  | false =>
  rw [d2] at o2
  by_cases d3 : 40 < c.nodes.length
  · have d3' : (40 : Int) < (c.nodes.length : Int) := by omega
    simp -implicitDefEqProofs -dsimp (maxSteps := 300000) only [go_sem, w, o1, o2, d3']
  have d3' : ¬ (40 : Int) < (c.nodes.length : Int) := by omega
  obtain ⟨hl, hl2⟩ := overM_ok d1
  obtain ⟨hm, hm2⟩ := overM_ok d2
  have n1 := newN_lim node c (by omega)
  simp -implicitDefEqProofs -dsimp (maxSteps := 300000) only [go_sem, w, o1, o2, d3', n1]
  have O : ∀ k, k ≤ 40 → BkOK 40 (hearAll ⟨node, c, []⟩ (l.take k)) := fun k hk =>
    (hearAll_ok (bkOK_new node c 0) (l.take k) fun x hx => hl2 x (List.mem_of_mem_take hx)).mono (by rw [List.length_take]; omega)
  have C : ∀ k, (hearAll ⟨node, c, []⟩ (l.take k)).con = c ∧ (hearAll ⟨node, c, []⟩ (l.take k)).node = node := fun k => hearAll_con ⟨node, c, []⟩ (l.take k)
  refine wp_for (σ := Nat) (fun k => [(0, vi node), (2, .list false 27 (mess l)), (3, .list false 27 (mess more)), (5, .box [vi c.epoch, .list false 1 (vnums c.nodes)]), (9, vb true), (10, .ptr 1 0), (11, vi (k : Nat))]) (fun k => HN (hearAll ⟨node, c, []⟩ (l.take k))) (fun k => l.length - k) (fun k => k ≤ l.length) 0 (Nat.zero_le _) rfl rfl ?_
  rintro k hk N hN
  by_cases hlt : k < l.length
  · have h1 : (k : Int) < (l.length : Int) := by omega
    have q := fun N => mess_at hlt N
    obtain ⟨o, e⟩ := hearN_lim (O k (by omega)) (by omega) (by rw [(C k).1]; omega) l[k] (hl2 _ (List.getElem_mem hlt))
    have hs : hearAll ⟨node, c, []⟩ (l.take (k + 1)) = (hearB (hearAll ⟨node, c, []⟩ (l.take k)) l[k]).2 := by rw [List.take_succ_eq_append_getElem hlt, hearAll_snoc]
    rw [← hs] at e
    simp -implicitDefEqProofs -dsimp (maxSteps := 300000) only [go_sem, ↓q, h1, e]
    refine hN (k + 1) _ (by omega) (by omega) ?_
    simp -implicitDefEqProofs -dsimp (maxSteps := 300000) only [go_sem, wrap_succ (show k < 9223372036854775807 by omega)]
  have h1 : ¬ (k : Int) < (l.length : Int) := by omega
  have Ok := O k (by omega)
  have Ck := C k
  generalize hearAll ⟨node, c, []⟩ (l.take k) = A at Ok Ck
  obtain ⟨rfl, rfl⟩ := Ck
  clear hN hk hl2 O C n1 o1 o2 w d1 d2
  have n2 := new2_lim A A.node A.con (by omega)
  have f1 := ids_lim (atN2a A ⟨A.node, A.con, []⟩) Ok (by omega)
  have hL : (idsB A).length ≤ 40 := by rw [idsB_len]; exact Ok.len
  simp -implicitDefEqProofs -dsimp (maxSteps := 300000) only [go_sem, h1, n2, f1]
  refine wp_for (σ := Nat) (fun k => [(3, .list false 27 (mess more)), (5, .box [vi A.con.epoch, .list false 1 (vnums A.con.nodes)]), (9, vb true), (10, .ptr 1 0), (12, .ptr 3 0), (13, .list true 3 (idr (idsB A))), (14, vi (k : Nat))]) (fun k => HN2 A (setAll A ⟨A.node, A.con, []⟩ ((idsB A).take k))) (fun k => (idsB A).length - k) (fun k => k ≤ (idsB A).length) 0 (Nat.zero_le _) rfl rfl ?_
  rintro j hj M hM
  by_cases gl : j < (idsB A).length
  · have f2 : (j : Int) < ((idsB A).length : Int) := by omega
    have q := fun N => id_at gl N
    have e1 := get_lim (atN2a A (setAll A ⟨A.node, A.con, []⟩ ((idsB A).take j))) (idsB A)[j] (by have := get_small Ok (idsB A)[j]; omega)
    have e2 := set2b_lim A (setAll A ⟨A.node, A.con, []⟩ ((idsB A).take j)) (idsB A)[j] (getB A (idsB A)[j]) (by have := get_small Ok (idsB A)[j]; omega)
    have hs : setAll A ⟨A.node, A.con, []⟩ ((idsB A).take (j + 1)) = setB (setAll A ⟨A.node, A.con, []⟩ ((idsB A).take j)) (idsB A)[j] (getB A (idsB A)[j]) := by rw [List.take_succ_eq_append_getElem gl, setAll_snoc]
    rw [← hs] at e2
    simp -implicitDefEqProofs -dsimp (maxSteps := 300000) only [go_sem, wp_RD, postC_path2, Nat.reduceDiv, ↓q, f2, e1, e2]
    refine hM (j + 1) _ (by omega) (by omega) ?_
    simp -implicitDefEqProofs -dsimp (maxSteps := 300000) only [go_sem, wrap_succ (show j < 9223372036854775807 by omega)]
  have f2 : ¬ (j : Int) < ((idsB A).length : Int) := by omega
  have hs : (idsB A).take j = idsB A := List.take_of_length_le (by omega)
  rw [hs]
  have SB := setAll_same A Ok.nodup
  have OB := setAll_ok Ok (bkOK_new A.node A.con 0) rfl (idsB A) (fun x hx => idsB_mem.1 hx) hL
  have CB := setAll_con A ⟨A.node, A.con, []⟩ (idsB A)
  generalize setAll A ⟨A.node, A.con, []⟩ (idsB A) = B at *
  dsimp only at CB
  have f3 := ids_lim (atN2b A B) OB (by omega)
  rw [SB.idsB] at f3
  have f4 := fun o1 o2 => row_self (h := HN2 A B) o1 o2 (idsB A) (by omega)
  simp -implicitDefEqProofs -dsimp (maxSteps := 300000) only [go_sem, f2, f3, f4]
  clear hM hj gl f2 hs f1 f3 f4 n2 h1
  refine wp_for (σ := Nat) (fun k => [(3, .list false 27 (mess more)), (5, .box [vi A.con.epoch, .list false 1 (vnums A.con.nodes)]), (9, vb true), (10, .ptr 1 0), (12, .ptr 3 0), (15, vi (k : Nat))]) (fun k => HN2 (hearAll A (more.take k)) (hearAll B (more.take k))) (fun k => more.length - k) (fun k => k ≤ more.length) 0 (Nat.zero_le _) rfl rfl ?_
  rintro k hk M hM
  by_cases hlt : k < more.length
  case neg =>
    have h1 : ¬ (k : Int) < (more.length : Int) := by omega
    simp -implicitDefEqProofs -dsimp (maxSteps := 300000) only [go_sem, h1]
  have h1 : (k : Int) < (more.length : Int) := by omega
  have q := fun N => mess_at hlt N
  have mk := hm2 _ (List.getElem_mem hlt)
  have sk := SB.all (more.take k)
  have OA : BkOK 80 (hearAll A (more.take k)) := (hearAll_ok Ok (more.take k) fun x hx => hm2 x (List.mem_of_mem_take hx)).mono (by rw [List.length_take]; omega)
  have OB2 : BkOK 120 (hearAll B (more.take k)) := (hearAll_ok OB (more.take k) fun x hx => hm2 x (List.mem_of_mem_take hx)).mono (by rw [List.length_take]; omega)
  have CA := hearAll_con A (more.take k)
  have CB2 := hearAll_con B (more.take k)
  have hsa : hearAll A (more.take (k + 1)) = (hearB (hearAll A (more.take k)) more[k]).2 := by rw [List.take_succ_eq_append_getElem hlt, hearAll_snoc]
  have hsb : hearAll B (more.take (k + 1)) = (hearB (hearAll B (more.take k)) more[k]).2 := by rw [List.take_succ_eq_append_getElem hlt, hearAll_snoc]
  obtain ⟨x1, e1⟩ := hear2a_lim (hearAll B (more.take k)) OA (by omega) (by rw [CA.1]; omega) more[k] mk
  obtain ⟨x2, e2⟩ := hear2b_lim (hearB (hearAll A (more.take k)) more[k]).2 OB2 (by omega) (by rw [CB2.1, CB.1]; omega) more[k] mk
  have e3 := fun o1 o2 => msgs_self (h := HN2 (hearB (hearAll A (more.take k)) more[k]).2 (hearB (hearAll B (more.take k)) more[k]).2) o1 o2 (hearB (hearAll A (more.take k)) more[k]).1 (by have := hear_len (hearAll A (more.take k)) more[k]; omega) (fun o ho => by have := hear_small OA mk o ho; omega)
  have hq := (sk.hear more[k]).1
  rw [hq] at e2
  have hM2 := hM (k + 1)
  rw [hsa, hsb] at hM2
  generalize (hearB (hearAll A (more.take k)) more[k]).1 = ms at *
  generalize HN2 (hearB (hearAll A (more.take k)) more[k]).2 (hearB (hearAll B (more.take k)) more[k]).2 = H3 at *
  generalize HN2 (hearB (hearAll A (more.take k)) more[k]).2 (hearAll B (more.take k)) = H2 at *
  generalize HN2 (hearAll A (more.take k)) (hearAll B (more.take k)) = H1 at *
  clear hM hsa hsb hq sk OA OB2 CA CB2
  cases x1 <;> cases x2
  all_goals
    simp -implicitDefEqProofs -dsimp (maxSteps := 300000) only [go_sem, wp_RD, postC_path2, Nat.reduceDiv, ↓q, h1, e1, e2, e3]
    refine hM2 _ (by omega) (by omega) ?_
    simp -implicitDefEqProofs -dsimp (maxSteps := 300000) only [go_sem, wrap_succ (show k < 9223372036854775807 by omega)]
end Go.DS

/-
  The row AcceptSet.
-/
namespace Go.Proofs.YtfmhhincdemhdaaGreat.acceptSet
open Go.ChangeShapes Go.WideShapes Go.ChangeAt Go.RowKit
open Go.ChangeMaps (open_string shut_string)
open Go.DS
set_option linter.unusedVariables false
set_option linter.unusedSimpArgs false

set_option maxRecDepth 100000 in
theorem contract (H : Type) (enc : TypeId × Value → H) (W : World) (base : Nat) (args : Array Value) (ds gs : List (DataW H)) (before : List MemPlace)
    (hval0 : ∀ (j : Nat) t v, Tryz.f6.params[j]? = some t → args[j]? = some v → Value.okWide Tryz.prog W .any base t v)
    (hW : DataW.Whole enc Tryz.prog Tryz.f6.params.toList Rows.acceptSetSpec.vars false W args.toList ds gs before) (hk : Rows.uptoSmall H (ds ++ gs) = true) :
    Calls Tryz.prog 6 args W fun e W' => ∃ v, e = .returned v ∧ Rows.acceptSetSpec.post enc Tryz.prog Tryz.f6 false true false false W args v W' := by
  have hval : ∀ (j : Nat) t v, Tryz.f6.params[j]? = some t → args[j]? = some v → Value.okWide Tryz.prog W .any base t v := hval0
  have hW' := hW
  obtain ⟨p, q, hA0, hV, rfl, hfz, hnd⟩ := hW
  have hA : DataW.TrodAll enc Tryz.prog W 0 (fun _ => true) true Tryz.f6.params.toList args.toList ds p := hA0
  rw [Tryz.params6] at hA hval
  obtain ⟨v0, vs0, d0, ds0, p0, q0, hargs, rfl, rfl, h0, r0⟩ := trodAll_cons hA
  obtain ⟨v1, vs1, d1, ds1, p1, q1, rfl, rfl, rfl, h1, r1⟩ := trodAll_cons r0
  obtain ⟨v2, vs2, d2, ds2, p2, q2, rfl, rfl, rfl, h2, r2⟩ := trodAll_cons r1
  obtain ⟨v3, vs3, d3, ds3, p3, q3, rfl, rfl, rfl, h3, r3⟩ := trodAll_cons r2
  obtain ⟨rfl, rfl, rfl⟩ := trodAll_nil r3
  obtain rfl : args = #[v0, v1, v2, v3] := by cases args; simp_all
  obtain ⟨rfl, rfl⟩ := trodVars_none hV
  have lt0 : ∀ x ∈ p0, x.block < W.heap.size := by obtain ⟨m, hm⟩ := h0; exact DataW.trod_lt m _ _ _ hm
  have k0 := h0
  obtain ⟨a0, rfl, rfl, rfl, y0⟩ := open_int Tryz.underlying3 (hval 0 3 v0 rfl rfl) h0
  have lt1 : ∀ x ∈ p1, x.block < W.heap.size := by obtain ⟨m, hm⟩ := h1; exact DataW.trod_lt m _ _ _ hm
  have k1 := h1
  obtain ⟨a1, y1, b1⟩ := arg_con (B := 1048575) (hval 1 24 v1 rfl rfl) h1 (by have hb := of_decide_eq_true hk; simp only [Rows.uptoBulkAll, List.append_nil, List.cons_append, List.nil_append] at hb; omega)
  have lt2 : ∀ x ∈ p2, x.block < W.heap.size := by obtain ⟨m, hm⟩ := h2; exact DataW.trod_lt m _ _ _ hm
  have k2 := h2
  obtain ⟨a2, y2, b2⟩ := arg_mess (B := 1048575) (hval 2 25 v2 rfl rfl) h2 (by have hb := of_decide_eq_true hk; simp only [Rows.uptoBulkAll, List.append_nil, List.cons_append, List.nil_append] at hb; omega)
  have lt3 : ∀ x ∈ p3, x.block < W.heap.size := by obtain ⟨m, hm⟩ := h3; exact DataW.trod_lt m _ _ _ hm
  have k3 := h3
  obtain ⟨a3, y3, b3⟩ := arg_mess (B := 1048575) (hval 3 25 v3 rfl rfl) h3 (by have hb := of_decide_eq_true hk; simp only [Rows.uptoBulkAll, List.append_nil, List.cons_append, List.nil_append] at hb; omega)
  clear hA0 hval0
  have hb := of_decide_eq_true hk
  simp only [Rows.uptoBulkAll, Rows.uptoBulk, List.append_nil] at hb
  refine (Go.DS.start ext_ok (acceptSet_lim a0 a1 a2 a3) W (vs := #[.int .i64 a0, v1, v2, v3]) (.cons (.sc _) (.cons (y1) (.cons (y2) (.cons (y3) (.nil _)))))).mono fun e W' ⟨he, bel⟩ => ?_
  subst he
  exact ⟨_, rfl, _, _, _, [], _, [], hW', trodAll_mk1 (shut_bool Tryz.underlying4 _), (trodAll_cons_mk (Below.trod laidOut' (by kernel_rfl) (of_decide_eq_true (by kernel_rfl)) k0 bel lt0) (trodAll_cons_mk (Below.trod laidOut' (by kernel_rfl) (of_decide_eq_true (by kernel_rfl)) k1 bel lt1) (trodAll_cons_mk (Below.trod laidOut' (by kernel_rfl) (of_decide_eq_true (by kernel_rfl)) k2 bel lt2) (trodAll_cons_mk (Below.trod laidOut' (by kernel_rfl) (of_decide_eq_true (by kernel_rfl)) k3 bel lt3) trodAll_mk0)))), rfl, bel.frame _, fun h => by cases h⟩

set_option maxRecDepth 100000 in
theorem lifted (os : Os) (started : os.Started) (H : Type) (enc : TypeId × Value → H) (F : Stop.Interp) :
    ReturnsInHanded {} Tryz.checked os 6 .any ((Rows.OpenSpec.upto Rows.acceptSetSpec).pre6 enc Tryz.prog Tryz.f6 Rows.acceptSetUptoRow.domain false) (((Rows.OpenSpec.upto Rows.acceptSetSpec).at F).post enc Tryz.prog Tryz.f6 false true false false) := by
  refine returnsInHanded_of_cond (C := Tryz.checked) (s := Rows.OpenSpec.upto Rows.acceptSetSpec) (k := Rows.uptoSmall) rfl own' started (by kernel_rfl) Tryz.func6
    (OpenSpec.witness (enc := enc) (C := Tryz.checked) (s := Rows.OpenSpec.upto Rows.acceptSetSpec) (k := Rows.uptoSmall) rfl false ⟨#[], #[.int .i64 0, .agg #[.int .i64 0, .slice none 0 0], .slice none 0 0, .slice none 0 0], []⟩ 8 (by kernel_rfl) (by kernel_rfl) (by kernel_rfl)
      (x := ([.lit (.int .i64 0), .agg [.lit (.int .i64 0), .nil], .nil, .nil], [], [])) (by kernel_rfl) rfl (by kernel_rfl)) ?_
  intro W base args ds gs before hval hW _ hk _
  exact contract H enc W base args ds gs before hval hW hk

theorem over : Rows.acceptSetUptoRow.holds Tryz.pinned (Rows.OpenSpec.upto Rows.acceptSetSpec) :=
  OpenClaim.holds_of_cond 6 Tryz.f6 rfl rfl rfl rfl rfl rfl rfl ⟨rfl, rfl, rfl, rfl, rfl⟩ rfl rfl rfl rfl rfl (by kernel_rfl) Tryz.func6 (by kernel_rfl)
    (of_decide_eq_true (by kernel_rfl)) (by unfold Func.isWrapper; first | (rw [if_pos (by decide +kernel)]; kernel_rfl) | (rw [if_neg (by decide +kernel)]; exact ⟨rfl, rfl⟩))
    (fun os started H enc _ F => lifted os started H enc F)

theorem proved : Rows.AcceptSetUptoSaid := over
#print axioms proved
end Go.Proofs.YtfmhhincdemhdaaGreat.acceptSet
namespace Go.Proofs.YtfmhhincdemhdaaGreat
theorem acceptSet_holds : Rows.AcceptSetUptoSaid := acceptSet.proved
end Go.Proofs.YtfmhhincdemhdaaGreat
