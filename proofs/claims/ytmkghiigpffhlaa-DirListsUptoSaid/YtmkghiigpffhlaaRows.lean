/-
  No cell of these rows narrows 'for every input' (looked for: loops, veiled, ifaces, maps, wideKeys, modest, calm, conditions, laid).
  DERIVED. THE GIVEN ROWS OF THIS SEAT. 9 by the template 'for every input the law returns true; each argument reads behind the call as it read before'; 0 by the template 'total and deterministic' (their statements: YtmkghiigpffhlaaTotals.lean).
  GIVEN WITH THE SEED: the statements are not yours to turn. If you find one false, say at which input.
  Laid BY PROGRAM, IN A SANDBOX (cutbox-rows.mjs): the forced cells as the released guide's own fill.sh prints them over the translation eefff4cb82e7b806… (all of the seat's roots in one cut). By AI agents, Wed Nov 11 2026. No macro, syntax, notation, axiom, sorry.
-/
import Derived.Test.YtmkghiigpffhlaaChecked
import GoSem.Claim
import GoSem.ClaimJoined
import GoSem.ClaimMapViews
import Derived.JoinedTies
import Derived.KernelRfl
namespace Go.Proofs.Ytmkghiigpffhlaa
/- THE CELL 'sum', in the pinned program and in every row, IS THE sha256 OF THE DUMP (.gsa) THAT YtmkghiigpffhlaaProg.lean LOADS. Nothing in Lean hashes anything: it is a label: what it is worth is what the hold of that sum in a sandbox is worth. -/
noncomputable def Try.pinned : Pinned := { name := "ytmkghiigpffhlaa", sum := "eefff4cb82e7b806263c719e9be0d466340e343e40e857fca0d6363c7b72b671", checked := Try.checked }
namespace Rows
def none {H : Type} : Left H := { results := [], args := [] }

/-- 'syndiclaw07.DirDoes': WHATEVER THE INPUT: true; the input reads as it did. -/
def dirDoesSpec : ChangeSpec := { name := "dirDoes", fn := fun _ => fun
  | [d1, d2] => { results := [.lit (.bool true)], args := [d1, d2] }
  | _ => none }
def dirDoesRow : OpenClaim := { program := "ytmkghiigpffhlaa", sum := "eefff4cb82e7b806263c719e9be0d466340e343e40e857fca0d6363c7b72b671", func := "syndic/syndiclaw07.DirDoes", spec := "dirDoes", inPlace := ["internal/bytealg.IndexByteString", "internal/abi.NoEscape", "internal/bytealg.MakeNoZero", "internal/bytealg.abigen_runtime_cmpstring", "maps.clone"], unfollowed := true, recurses := true, plainKeys := false, apart := false }
def DirDoesSaid : Prop := dirDoesRow.holds Try.pinned (OpenSpec.ofChange dirDoesSpec)

/-- ITS FALSE NEIGHBOUR: 'it returns false'. Refute it at one input. -/
def dirDoesWrong : ChangeSpec := { name := "dirDoes", fn := fun _ => fun
  | [d1, d2] => { results := [.lit (.bool false)], args := [d1, d2] }
  | _ => none }
def DirDoesWrongFalsely : Prop := dirDoesRow.holds Try.pinned (OpenSpec.ofChange dirDoesWrong)

/-- 'syndiclaw07.DirRight': WHATEVER THE INPUT: true; the input reads as it did. -/
def dirRightSpec : ChangeSpec := { name := "dirRight", fn := fun _ => fun
  | [d] => { results := [.lit (.bool true)], args := [d] }
  | _ => none }
def dirRightRow : OpenClaim := { program := "ytmkghiigpffhlaa", sum := "eefff4cb82e7b806263c719e9be0d466340e343e40e857fca0d6363c7b72b671", func := "syndic/syndiclaw07.DirRight", spec := "dirRight", inPlace := ["internal/bytealg.IndexByteString", "internal/abi.NoEscape", "internal/bytealg.MakeNoZero", "internal/bytealg.abigen_runtime_cmpstring", "maps.clone"], unfollowed := true, recurses := true, plainKeys := false, apart := false }
def DirRightSaid : Prop := dirRightRow.holds Try.pinned (OpenSpec.ofChange dirRightSpec)

/-- ITS FALSE NEIGHBOUR: 'it returns false'. Refute it at one input. -/
def dirRightWrong : ChangeSpec := { name := "dirRight", fn := fun _ => fun
  | [d] => { results := [.lit (.bool false)], args := [d] }
  | _ => none }
def DirRightWrongFalsely : Prop := dirRightRow.holds Try.pinned (OpenSpec.ofChange dirRightWrong)

/-- 'syndiclaw07.DirReads': WHATEVER THE INPUT: true; the input reads as it did. -/
def dirReadsSpec : ChangeSpec := { name := "dirReads", fn := fun _ => fun
  | [d1, d2] => { results := [.lit (.bool true)], args := [d1, d2] }
  | _ => none }
def dirReadsRow : OpenClaim := { program := "ytmkghiigpffhlaa", sum := "eefff4cb82e7b806263c719e9be0d466340e343e40e857fca0d6363c7b72b671", func := "syndic/syndiclaw07.DirReads", spec := "dirReads", inPlace := ["internal/bytealg.IndexByteString", "internal/abi.NoEscape", "internal/bytealg.MakeNoZero", "internal/bytealg.abigen_runtime_cmpstring", "maps.clone"], unfollowed := true, recurses := true, plainKeys := false, apart := false }
def DirReadsSaid : Prop := dirReadsRow.holds Try.pinned (OpenSpec.ofChange dirReadsSpec)

/-- ITS FALSE NEIGHBOUR: 'it returns false'. Refute it at one input. -/
def dirReadsWrong : ChangeSpec := { name := "dirReads", fn := fun _ => fun
  | [d1, d2] => { results := [.lit (.bool false)], args := [d1, d2] }
  | _ => none }
def DirReadsWrongFalsely : Prop := dirReadsRow.holds Try.pinned (OpenSpec.ofChange dirReadsWrong)

/-- 'syndiclaw07.DirCas': WHATEVER THE INPUT: true; the input reads as it did. -/
def dirCasSpec : ChangeSpec := { name := "dirCas", fn := fun _ => fun
  | [d1, d2, d3, d4, d5] => { results := [.lit (.bool true)], args := [d1, d2, d3, d4, d5] }
  | _ => none }
def dirCasRow : OpenClaim := { program := "ytmkghiigpffhlaa", sum := "eefff4cb82e7b806263c719e9be0d466340e343e40e857fca0d6363c7b72b671", func := "syndic/syndiclaw07.DirCas", spec := "dirCas", inPlace := ["internal/bytealg.IndexByteString", "internal/abi.NoEscape", "internal/bytealg.MakeNoZero", "internal/bytealg.abigen_runtime_cmpstring", "maps.clone"], unfollowed := true, recurses := true, plainKeys := false, apart := false }
def DirCasSaid : Prop := dirCasRow.holds Try.pinned (OpenSpec.ofChange dirCasSpec)

/-- ITS FALSE NEIGHBOUR: 'it returns false'. Refute it at one input. -/
def dirCasWrong : ChangeSpec := { name := "dirCas", fn := fun _ => fun
  | [d1, d2, d3, d4, d5] => { results := [.lit (.bool false)], args := [d1, d2, d3, d4, d5] }
  | _ => none }
def DirCasWrongFalsely : Prop := dirCasRow.holds Try.pinned (OpenSpec.ofChange dirCasWrong)

/-- 'syndiclaw07.DirClone': WHATEVER THE INPUT: true; the input reads as it did. -/
def dirCloneSpec : ChangeSpec := { name := "dirClone", fn := fun _ => fun
  | [d1, d2] => { results := [.lit (.bool true)], args := [d1, d2] }
  | _ => none }
def dirCloneRow : OpenClaim := { program := "ytmkghiigpffhlaa", sum := "eefff4cb82e7b806263c719e9be0d466340e343e40e857fca0d6363c7b72b671", func := "syndic/syndiclaw07.DirClone", spec := "dirClone", inPlace := ["internal/bytealg.IndexByteString", "internal/abi.NoEscape", "internal/bytealg.MakeNoZero", "internal/bytealg.abigen_runtime_cmpstring", "maps.clone"], unfollowed := true, recurses := true, plainKeys := false, apart := false }
def DirCloneSaid : Prop := dirCloneRow.holds Try.pinned (OpenSpec.ofChange dirCloneSpec)

/-- ITS FALSE NEIGHBOUR: 'it returns false'. Refute it at one input. -/
def dirCloneWrong : ChangeSpec := { name := "dirClone", fn := fun _ => fun
  | [d1, d2] => { results := [.lit (.bool false)], args := [d1, d2] }
  | _ => none }
def DirCloneWrongFalsely : Prop := dirCloneRow.holds Try.pinned (OpenSpec.ofChange dirCloneWrong)

/-- 'syndiclaw07.DirDeletes': WHATEVER THE INPUT: true; the input reads as it did. -/
def dirDeletesSpec : ChangeSpec := { name := "dirDeletes", fn := fun _ => fun
  | [d1, d2, d3] => { results := [.lit (.bool true)], args := [d1, d2, d3] }
  | _ => none }
def dirDeletesRow : OpenClaim := { program := "ytmkghiigpffhlaa", sum := "eefff4cb82e7b806263c719e9be0d466340e343e40e857fca0d6363c7b72b671", func := "syndic/syndiclaw07.DirDeletes", spec := "dirDeletes", inPlace := ["internal/bytealg.IndexByteString", "internal/abi.NoEscape", "internal/bytealg.MakeNoZero", "internal/bytealg.abigen_runtime_cmpstring", "maps.clone"], unfollowed := true, recurses := true, plainKeys := false, apart := false }
def DirDeletesSaid : Prop := dirDeletesRow.holds Try.pinned (OpenSpec.ofChange dirDeletesSpec)

/-- ITS FALSE NEIGHBOUR: 'it returns false'. Refute it at one input. -/
def dirDeletesWrong : ChangeSpec := { name := "dirDeletes", fn := fun _ => fun
  | [d1, d2, d3] => { results := [.lit (.bool false)], args := [d1, d2, d3] }
  | _ => none }
def DirDeletesWrongFalsely : Prop := dirDeletesRow.holds Try.pinned (OpenSpec.ofChange dirDeletesWrong)

/-- 'syndiclaw07.DirOthers': WHATEVER THE INPUT: true; the input reads as it did. -/
def dirOthersSpec : ChangeSpec := { name := "dirOthers", fn := fun _ => fun
  | [d1, d2, d3] => { results := [.lit (.bool true)], args := [d1, d2, d3] }
  | _ => none }
def dirOthersRow : OpenClaim := { program := "ytmkghiigpffhlaa", sum := "eefff4cb82e7b806263c719e9be0d466340e343e40e857fca0d6363c7b72b671", func := "syndic/syndiclaw07.DirOthers", spec := "dirOthers", inPlace := ["internal/bytealg.IndexByteString", "internal/abi.NoEscape", "internal/bytealg.MakeNoZero", "internal/bytealg.abigen_runtime_cmpstring", "maps.clone"], unfollowed := true, recurses := true, plainKeys := false, apart := false }
def DirOthersSaid : Prop := dirOthersRow.holds Try.pinned (OpenSpec.ofChange dirOthersSpec)

/-- ITS FALSE NEIGHBOUR: 'it returns false'. Refute it at one input. -/
def dirOthersWrong : ChangeSpec := { name := "dirOthers", fn := fun _ => fun
  | [d1, d2, d3] => { results := [.lit (.bool false)], args := [d1, d2, d3] }
  | _ => none }
def DirOthersWrongFalsely : Prop := dirOthersRow.holds Try.pinned (OpenSpec.ofChange dirOthersWrong)

/-- 'syndiclaw07.DirLists': WHATEVER THE INPUT: true; the input reads as it did. -/
def dirListsSpec : ChangeSpec := { name := "dirLists", fn := fun _ => fun
  | [d1, d2, d3] => { results := [.lit (.bool true)], args := [d1, d2, d3] }
  | _ => none }
def dirListsRow : OpenClaim := { program := "ytmkghiigpffhlaa", sum := "eefff4cb82e7b806263c719e9be0d466340e343e40e857fca0d6363c7b72b671", func := "syndic/syndiclaw07.DirLists", spec := "dirLists", inPlace := ["internal/bytealg.IndexByteString", "internal/abi.NoEscape", "internal/bytealg.MakeNoZero", "internal/bytealg.abigen_runtime_cmpstring", "maps.clone"], unfollowed := true, recurses := true, plainKeys := false, apart := false }
def DirListsSaid : Prop := dirListsRow.holds Try.pinned (OpenSpec.ofChange dirListsSpec)

/-- ITS FALSE NEIGHBOUR: 'it returns false'. Refute it at one input. -/
def dirListsWrong : ChangeSpec := { name := "dirLists", fn := fun _ => fun
  | [d1, d2, d3] => { results := [.lit (.bool false)], args := [d1, d2, d3] }
  | _ => none }
def DirListsWrongFalsely : Prop := dirListsRow.holds Try.pinned (OpenSpec.ofChange dirListsWrong)

/-- 'syndiclaw08.TouchSwaps': WHATEVER THE INPUT: true; the input reads as it did. -/
def touchSwapsSpec : ChangeSpec := { name := "touchSwaps", fn := fun _ => fun
  | [d1, d2, d3] => { results := [.lit (.bool true)], args := [d1, d2, d3] }
  | _ => none }
def touchSwapsRow : OpenClaim := { program := "ytmkghiigpffhlaa", sum := "eefff4cb82e7b806263c719e9be0d466340e343e40e857fca0d6363c7b72b671", func := "syndic/syndiclaw08.TouchSwaps", spec := "touchSwaps", inPlace := ["internal/bytealg.IndexByteString", "internal/abi.NoEscape", "internal/bytealg.MakeNoZero", "maps.clone", "internal/bytealg.abigen_runtime_cmpstring"], unfollowed := true, recurses := true, plainKeys := false, apart := false }
def TouchSwapsSaid : Prop := touchSwapsRow.holds Try.pinned (OpenSpec.ofChange touchSwapsSpec)

/-- ITS FALSE NEIGHBOUR: 'it returns false'. Refute it at one input. -/
def touchSwapsWrong : ChangeSpec := { name := "touchSwaps", fn := fun _ => fun
  | [d1, d2, d3] => { results := [.lit (.bool false)], args := [d1, d2, d3] }
  | _ => none }
def TouchSwapsWrongFalsely : Prop := touchSwapsRow.holds Try.pinned (OpenSpec.ofChange touchSwapsWrong)

/- THE SECOND FORM. 'bulk': how many values and letters a reading holds, each counted each time it is reached (what is shared counts as often as it is met; a slice's spare places count too). A statement '..UptoSaid' is the law's where the arguments, and the package variables that the reading takes, are together of bulk at most 1048576: NARROWER than '..Said'. Prove '..Said' where nothing that the law and all that it calls make is longer than what came in: it says more and counts as full. Else prove '..UptoSaid'. A law counts once. -/
mutual
def uptoBulk {H : Type} : DataW H → Nat
  | .lit (.string bytes) => bytes.length + 1
  | .lit _ => 1
  | .nil => 1
  | .ptr d => uptoBulk d + 1
  | .slice elems spare => uptoBulkAll elems + uptoBulkAll spare + 1
  | .agg parts => uptoBulkAll parts + 1
  | .iface _ d => uptoBulk d + 1
  | .map entries => uptoBulkEntries entries + 1
  | .held _ => 1
def uptoBulkAll {H : Type} : List (DataW H) → Nat
  | [] => 0
  | d :: r => uptoBulk d + uptoBulkAll r
def uptoBulkEntries {H : Type} : List (Lit × DataW H) → Nat
  | [] => 0
  | x :: r => uptoBulkEntry x + uptoBulkEntries r
def uptoBulkEntry {H : Type} : Lit × DataW H → Nat
  | (.string bytes, d) => bytes.length + uptoBulk d + 1
  | (_, d) => uptoBulk d + 1
 end
def uptoSmall : (H : Type) → List (DataW H) → Bool := fun _ ds => decide (uptoBulkAll ds ≤ 1048576)
def OpenSpec.upto (s : _root_.Go.ChangeSpec) : _root_.Go.OpenSpec := { _root_.Go.OpenSpec.ofChange s with cond := some uptoSmall }

/-- 'syndiclaw07.DirDoes', WHERE WHAT IT READS IS OF BULK AT MOST 1048576: true; the input reads as it did. -/
def dirDoesUptoRow : OpenClaim := { program := "ytmkghiigpffhlaa", sum := "eefff4cb82e7b806263c719e9be0d466340e343e40e857fca0d6363c7b72b671", func := "syndic/syndiclaw07.DirDoes", spec := "dirDoes", inPlace := ["internal/bytealg.IndexByteString", "internal/abi.NoEscape", "internal/bytealg.MakeNoZero", "internal/bytealg.abigen_runtime_cmpstring", "maps.clone"], unfollowed := true, recurses := true, plainKeys := false, apart := false, narrowed := true }
def DirDoesUptoSaid : Prop := dirDoesUptoRow.holds Try.pinned (OpenSpec.upto dirDoesSpec)

/-- 'syndiclaw07.DirRight', WHERE WHAT IT READS IS OF BULK AT MOST 1048576: true; the input reads as it did. -/
def dirRightUptoRow : OpenClaim := { program := "ytmkghiigpffhlaa", sum := "eefff4cb82e7b806263c719e9be0d466340e343e40e857fca0d6363c7b72b671", func := "syndic/syndiclaw07.DirRight", spec := "dirRight", inPlace := ["internal/bytealg.IndexByteString", "internal/abi.NoEscape", "internal/bytealg.MakeNoZero", "internal/bytealg.abigen_runtime_cmpstring", "maps.clone"], unfollowed := true, recurses := true, plainKeys := false, apart := false, narrowed := true }
def DirRightUptoSaid : Prop := dirRightUptoRow.holds Try.pinned (OpenSpec.upto dirRightSpec)

/-- 'syndiclaw07.DirReads', WHERE WHAT IT READS IS OF BULK AT MOST 1048576: true; the input reads as it did. -/
def dirReadsUptoRow : OpenClaim := { program := "ytmkghiigpffhlaa", sum := "eefff4cb82e7b806263c719e9be0d466340e343e40e857fca0d6363c7b72b671", func := "syndic/syndiclaw07.DirReads", spec := "dirReads", inPlace := ["internal/bytealg.IndexByteString", "internal/abi.NoEscape", "internal/bytealg.MakeNoZero", "internal/bytealg.abigen_runtime_cmpstring", "maps.clone"], unfollowed := true, recurses := true, plainKeys := false, apart := false, narrowed := true }
def DirReadsUptoSaid : Prop := dirReadsUptoRow.holds Try.pinned (OpenSpec.upto dirReadsSpec)

/-- 'syndiclaw07.DirCas', WHERE WHAT IT READS IS OF BULK AT MOST 1048576: true; the input reads as it did. -/
def dirCasUptoRow : OpenClaim := { program := "ytmkghiigpffhlaa", sum := "eefff4cb82e7b806263c719e9be0d466340e343e40e857fca0d6363c7b72b671", func := "syndic/syndiclaw07.DirCas", spec := "dirCas", inPlace := ["internal/bytealg.IndexByteString", "internal/abi.NoEscape", "internal/bytealg.MakeNoZero", "internal/bytealg.abigen_runtime_cmpstring", "maps.clone"], unfollowed := true, recurses := true, plainKeys := false, apart := false, narrowed := true }
def DirCasUptoSaid : Prop := dirCasUptoRow.holds Try.pinned (OpenSpec.upto dirCasSpec)

/-- 'syndiclaw07.DirClone', WHERE WHAT IT READS IS OF BULK AT MOST 1048576: true; the input reads as it did. -/
def dirCloneUptoRow : OpenClaim := { program := "ytmkghiigpffhlaa", sum := "eefff4cb82e7b806263c719e9be0d466340e343e40e857fca0d6363c7b72b671", func := "syndic/syndiclaw07.DirClone", spec := "dirClone", inPlace := ["internal/bytealg.IndexByteString", "internal/abi.NoEscape", "internal/bytealg.MakeNoZero", "internal/bytealg.abigen_runtime_cmpstring", "maps.clone"], unfollowed := true, recurses := true, plainKeys := false, apart := false, narrowed := true }
def DirCloneUptoSaid : Prop := dirCloneUptoRow.holds Try.pinned (OpenSpec.upto dirCloneSpec)

/-- 'syndiclaw07.DirDeletes', WHERE WHAT IT READS IS OF BULK AT MOST 1048576: true; the input reads as it did. -/
def dirDeletesUptoRow : OpenClaim := { program := "ytmkghiigpffhlaa", sum := "eefff4cb82e7b806263c719e9be0d466340e343e40e857fca0d6363c7b72b671", func := "syndic/syndiclaw07.DirDeletes", spec := "dirDeletes", inPlace := ["internal/bytealg.IndexByteString", "internal/abi.NoEscape", "internal/bytealg.MakeNoZero", "internal/bytealg.abigen_runtime_cmpstring", "maps.clone"], unfollowed := true, recurses := true, plainKeys := false, apart := false, narrowed := true }
def DirDeletesUptoSaid : Prop := dirDeletesUptoRow.holds Try.pinned (OpenSpec.upto dirDeletesSpec)

/-- 'syndiclaw07.DirOthers', WHERE WHAT IT READS IS OF BULK AT MOST 1048576: true; the input reads as it did. -/
def dirOthersUptoRow : OpenClaim := { program := "ytmkghiigpffhlaa", sum := "eefff4cb82e7b806263c719e9be0d466340e343e40e857fca0d6363c7b72b671", func := "syndic/syndiclaw07.DirOthers", spec := "dirOthers", inPlace := ["internal/bytealg.IndexByteString", "internal/abi.NoEscape", "internal/bytealg.MakeNoZero", "internal/bytealg.abigen_runtime_cmpstring", "maps.clone"], unfollowed := true, recurses := true, plainKeys := false, apart := false, narrowed := true }
def DirOthersUptoSaid : Prop := dirOthersUptoRow.holds Try.pinned (OpenSpec.upto dirOthersSpec)

/-- 'syndiclaw07.DirLists', WHERE WHAT IT READS IS OF BULK AT MOST 1048576: true; the input reads as it did. -/
def dirListsUptoRow : OpenClaim := { program := "ytmkghiigpffhlaa", sum := "eefff4cb82e7b806263c719e9be0d466340e343e40e857fca0d6363c7b72b671", func := "syndic/syndiclaw07.DirLists", spec := "dirLists", inPlace := ["internal/bytealg.IndexByteString", "internal/abi.NoEscape", "internal/bytealg.MakeNoZero", "internal/bytealg.abigen_runtime_cmpstring", "maps.clone"], unfollowed := true, recurses := true, plainKeys := false, apart := false, narrowed := true }
def DirListsUptoSaid : Prop := dirListsUptoRow.holds Try.pinned (OpenSpec.upto dirListsSpec)

/-- 'syndiclaw08.TouchSwaps', WHERE WHAT IT READS IS OF BULK AT MOST 1048576: true; the input reads as it did. -/
def touchSwapsUptoRow : OpenClaim := { program := "ytmkghiigpffhlaa", sum := "eefff4cb82e7b806263c719e9be0d466340e343e40e857fca0d6363c7b72b671", func := "syndic/syndiclaw08.TouchSwaps", spec := "touchSwaps", inPlace := ["internal/bytealg.IndexByteString", "internal/abi.NoEscape", "internal/bytealg.MakeNoZero", "maps.clone", "internal/bytealg.abigen_runtime_cmpstring"], unfollowed := true, recurses := true, plainKeys := false, apart := false, narrowed := true }
def TouchSwapsUptoSaid : Prop := touchSwapsUptoRow.holds Try.pinned (OpenSpec.upto touchSwapsSpec)

end Rows
end Go.Proofs.Ytmkghiigpffhlaa
