/-
  No cell of these rows narrows 'for every input' (looked for: loops, veiled, ifaces, maps, wideKeys, modest, calm, conditions, laid).
  DERIVED. THE GIVEN ROWS OF THIS SEAT. 10 by the template 'for every input the law returns true; each argument reads behind the call as it read before'; 0 by the template 'total and deterministic' (their statements: YtejkkmiaffbjbaaTotals.lean).
  GIVEN WITH THE SEED: the statements are not yours to turn. If you find one false, say at which input.
  Laid BY PROGRAM, IN A SANDBOX (cutbox-rows.mjs): the forced cells as the released guide's own fill.sh prints them over the translation 1f26488e91ed25af… (all of the seat's roots in one cut). By AI agents, Wed Nov 11 2026. No macro, syntax, notation, axiom, sorry.
-/
import Derived.Test.YtejkkmiaffbjbaaChecked
import GoSem.Claim
import GoSem.ClaimJoined
import GoSem.ClaimMapViews
import Derived.JoinedTies
import Derived.KernelRfl
namespace Go.Proofs.Ytejkkmiaffbjbaa
/- THE CELL 'sum', in the pinned program and in every row, IS THE sha256 OF THE DUMP (.gsa) THAT YtejkkmiaffbjbaaProg.lean LOADS. Nothing in Lean hashes anything: it is a label: what it is worth is what the hold of that sum in a sandbox is worth. -/
noncomputable def Try.pinned : Pinned := { name := "ytejkkmiaffbjbaa", sum := "1f26488e91ed25af3aad02d2d8dda01ab5dab161c0f14309682a39e9fc2555d3", checked := Try.checked }
namespace Rows
def none {H : Type} : Left H := { results := [], args := [] }

/-- 'syndiclaw06.PathsTells': WHATEVER THE INPUT: true; the input reads as it did. -/
def pathsTellsSpec : ChangeSpec := { name := "pathsTells", fn := fun _ => fun
  | [d1, d2] => { results := [.lit (.bool true)], args := [d1, d2] }
  | _ => none }
def pathsTellsRow : OpenClaim := { program := "ytejkkmiaffbjbaa", sum := "1f26488e91ed25af3aad02d2d8dda01ab5dab161c0f14309682a39e9fc2555d3", func := "syndic/syndiclaw06.PathsTells", spec := "pathsTells", inPlace := ["internal/bytealg.IndexByteString", "internal/abi.NoEscape", "internal/bytealg.MakeNoZero", "internal/bytealg.abigen_runtime_cmpstring"], unfollowed := true, recurses := true, plainKeys := false, apart := false }
def PathsTellsSaid : Prop := pathsTellsRow.holds Try.pinned (OpenSpec.ofChange pathsTellsSpec)

/-- ITS FALSE NEIGHBOUR: 'it returns false'. Refute it at one input. -/
def pathsTellsWrong : ChangeSpec := { name := "pathsTells", fn := fun _ => fun
  | [d1, d2] => { results := [.lit (.bool false)], args := [d1, d2] }
  | _ => none }
def PathsTellsWrongFalsely : Prop := pathsTellsRow.holds Try.pinned (OpenSpec.ofChange pathsTellsWrong)

/-- 'syndiclaw06.PathsOf': WHATEVER THE INPUT: true; the input reads as it did. -/
def pathsOfSpec : ChangeSpec := { name := "pathsOf", fn := fun _ => fun
  | [d] => { results := [.lit (.bool true)], args := [d] }
  | _ => none }
def pathsOfRow : OpenClaim := { program := "ytejkkmiaffbjbaa", sum := "1f26488e91ed25af3aad02d2d8dda01ab5dab161c0f14309682a39e9fc2555d3", func := "syndic/syndiclaw06.PathsOf", spec := "pathsOf", inPlace := ["internal/bytealg.IndexByteString", "internal/abi.NoEscape", "internal/bytealg.MakeNoZero", "internal/bytealg.abigen_runtime_cmpstring"], unfollowed := true, recurses := true, plainKeys := false, apart := false }
def PathsOfSaid : Prop := pathsOfRow.holds Try.pinned (OpenSpec.ofChange pathsOfSpec)

/-- ITS FALSE NEIGHBOUR: 'it returns false'. Refute it at one input. -/
def pathsOfWrong : ChangeSpec := { name := "pathsOf", fn := fun _ => fun
  | [d] => { results := [.lit (.bool false)], args := [d] }
  | _ => none }
def PathsOfWrongFalsely : Prop := pathsOfRow.holds Try.pinned (OpenSpec.ofChange pathsOfWrong)

/-- 'syndiclaw06.PathsUp': WHATEVER THE INPUT: true; the input reads as it did. -/
def pathsUpSpec : ChangeSpec := { name := "pathsUp", fn := fun _ => fun
  | [d1, d2, d3] => { results := [.lit (.bool true)], args := [d1, d2, d3] }
  | _ => none }
def pathsUpRow : OpenClaim := { program := "ytejkkmiaffbjbaa", sum := "1f26488e91ed25af3aad02d2d8dda01ab5dab161c0f14309682a39e9fc2555d3", func := "syndic/syndiclaw06.PathsUp", spec := "pathsUp", inPlace := ["internal/bytealg.IndexByteString", "internal/abi.NoEscape", "internal/bytealg.MakeNoZero", "internal/bytealg.abigen_runtime_cmpstring"], unfollowed := true, recurses := true, plainKeys := false, apart := false }
def PathsUpSaid : Prop := pathsUpRow.holds Try.pinned (OpenSpec.ofChange pathsUpSpec)

/-- ITS FALSE NEIGHBOUR: 'it returns false'. Refute it at one input. -/
def pathsUpWrong : ChangeSpec := { name := "pathsUp", fn := fun _ => fun
  | [d1, d2, d3] => { results := [.lit (.bool false)], args := [d1, d2, d3] }
  | _ => none }
def PathsUpWrongFalsely : Prop := pathsUpRow.holds Try.pinned (OpenSpec.ofChange pathsUpWrong)

/-- 'syndiclaw06.PathsOrder': WHATEVER THE INPUT: true; the input reads as it did. -/
def pathsOrderSpec : ChangeSpec := { name := "pathsOrder", fn := fun _ => fun
  | [d1, d2, d3] => { results := [.lit (.bool true)], args := [d1, d2, d3] }
  | _ => none }
def pathsOrderRow : OpenClaim := { program := "ytejkkmiaffbjbaa", sum := "1f26488e91ed25af3aad02d2d8dda01ab5dab161c0f14309682a39e9fc2555d3", func := "syndic/syndiclaw06.PathsOrder", spec := "pathsOrder", inPlace := ["internal/bytealg.IndexByteString", "internal/abi.NoEscape", "internal/bytealg.MakeNoZero", "internal/bytealg.abigen_runtime_cmpstring"], unfollowed := true, recurses := true, plainKeys := false, apart := false }
def PathsOrderSaid : Prop := pathsOrderRow.holds Try.pinned (OpenSpec.ofChange pathsOrderSpec)

/-- ITS FALSE NEIGHBOUR: 'it returns false'. Refute it at one input. -/
def pathsOrderWrong : ChangeSpec := { name := "pathsOrder", fn := fun _ => fun
  | [d1, d2, d3] => { results := [.lit (.bool false)], args := [d1, d2, d3] }
  | _ => none }
def PathsOrderWrongFalsely : Prop := pathsOrderRow.holds Try.pinned (OpenSpec.ofChange pathsOrderWrong)

/-- 'syndiclaw06.PathsJoin': WHATEVER THE INPUT: true; the input reads as it did. -/
def pathsJoinSpec : ChangeSpec := { name := "pathsJoin", fn := fun _ => fun
  | [d1, d2] => { results := [.lit (.bool true)], args := [d1, d2] }
  | _ => none }
def pathsJoinRow : OpenClaim := { program := "ytejkkmiaffbjbaa", sum := "1f26488e91ed25af3aad02d2d8dda01ab5dab161c0f14309682a39e9fc2555d3", func := "syndic/syndiclaw06.PathsJoin", spec := "pathsJoin", inPlace := ["internal/bytealg.IndexByteString", "internal/abi.NoEscape", "internal/bytealg.MakeNoZero", "internal/bytealg.abigen_runtime_cmpstring"], unfollowed := true, recurses := true, plainKeys := false, apart := false }
def PathsJoinSaid : Prop := pathsJoinRow.holds Try.pinned (OpenSpec.ofChange pathsJoinSpec)

/-- ITS FALSE NEIGHBOUR: 'it returns false'. Refute it at one input. -/
def pathsJoinWrong : ChangeSpec := { name := "pathsJoin", fn := fun _ => fun
  | [d1, d2] => { results := [.lit (.bool false)], args := [d1, d2] }
  | _ => none }
def PathsJoinWrongFalsely : Prop := pathsJoinRow.holds Try.pinned (OpenSpec.ofChange pathsJoinWrong)

/-- 'syndiclaw06.PathsShort': WHATEVER THE INPUT: true; the input reads as it did. -/
def pathsShortSpec : ChangeSpec := { name := "pathsShort", fn := fun _ => fun
  | [d1, d2, d3] => { results := [.lit (.bool true)], args := [d1, d2, d3] }
  | _ => none }
def pathsShortRow : OpenClaim := { program := "ytejkkmiaffbjbaa", sum := "1f26488e91ed25af3aad02d2d8dda01ab5dab161c0f14309682a39e9fc2555d3", func := "syndic/syndiclaw06.PathsShort", spec := "pathsShort", inPlace := ["internal/bytealg.IndexByteString", "internal/abi.NoEscape", "internal/bytealg.MakeNoZero", "internal/bytealg.abigen_runtime_cmpstring"], unfollowed := true, recurses := true, plainKeys := false, apart := false }
def PathsShortSaid : Prop := pathsShortRow.holds Try.pinned (OpenSpec.ofChange pathsShortSpec)

/-- ITS FALSE NEIGHBOUR: 'it returns false'. Refute it at one input. -/
def pathsShortWrong : ChangeSpec := { name := "pathsShort", fn := fun _ => fun
  | [d1, d2, d3] => { results := [.lit (.bool false)], args := [d1, d2, d3] }
  | _ => none }
def PathsShortWrongFalsely : Prop := pathsShortRow.holds Try.pinned (OpenSpec.ofChange pathsShortWrong)

/-- 'syndiclaw08.TouchTells': WHATEVER THE INPUT: true; the input reads as it did. -/
def touchTellsSpec : ChangeSpec := { name := "touchTells", fn := fun _ => fun
  | [d1, d2] => { results := [.lit (.bool true)], args := [d1, d2] }
  | _ => none }
def touchTellsRow : OpenClaim := { program := "ytejkkmiaffbjbaa", sum := "1f26488e91ed25af3aad02d2d8dda01ab5dab161c0f14309682a39e9fc2555d3", func := "syndic/syndiclaw08.TouchTells", spec := "touchTells", inPlace := ["internal/bytealg.IndexByteString", "internal/abi.NoEscape", "internal/bytealg.MakeNoZero"], unfollowed := true, recurses := true, plainKeys := false, apart := false }
def TouchTellsSaid : Prop := touchTellsRow.holds Try.pinned (OpenSpec.ofChange touchTellsSpec)

/-- ITS FALSE NEIGHBOUR: 'it returns false'. Refute it at one input. -/
def touchTellsWrong : ChangeSpec := { name := "touchTells", fn := fun _ => fun
  | [d1, d2] => { results := [.lit (.bool false)], args := [d1, d2] }
  | _ => none }
def TouchTellsWrongFalsely : Prop := touchTellsRow.holds Try.pinned (OpenSpec.ofChange touchTellsWrong)

/-- 'syndiclaw08.TouchBoth': WHATEVER THE INPUT: true; the input reads as it did. -/
def touchBothSpec : ChangeSpec := { name := "touchBoth", fn := fun _ => fun
  | [d1, d2] => { results := [.lit (.bool true)], args := [d1, d2] }
  | _ => none }
def touchBothRow : OpenClaim := { program := "ytejkkmiaffbjbaa", sum := "1f26488e91ed25af3aad02d2d8dda01ab5dab161c0f14309682a39e9fc2555d3", func := "syndic/syndiclaw08.TouchBoth", spec := "touchBoth", inPlace := ["internal/bytealg.IndexByteString", "internal/abi.NoEscape", "internal/bytealg.MakeNoZero"], unfollowed := true, recurses := true, plainKeys := false, apart := false }
def TouchBothSaid : Prop := touchBothRow.holds Try.pinned (OpenSpec.ofChange touchBothSpec)

/-- ITS FALSE NEIGHBOUR: 'it returns false'. Refute it at one input. -/
def touchBothWrong : ChangeSpec := { name := "touchBoth", fn := fun _ => fun
  | [d1, d2] => { results := [.lit (.bool false)], args := [d1, d2] }
  | _ => none }
def TouchBothWrongFalsely : Prop := touchBothRow.holds Try.pinned (OpenSpec.ofChange touchBothWrong)

/-- 'syndiclaw08.TouchFar': WHATEVER THE INPUT: true; the input reads as it did. -/
def touchFarSpec : ChangeSpec := { name := "touchFar", fn := fun _ => fun
  | [d1, d2] => { results := [.lit (.bool true)], args := [d1, d2] }
  | _ => none }
def touchFarRow : OpenClaim := { program := "ytejkkmiaffbjbaa", sum := "1f26488e91ed25af3aad02d2d8dda01ab5dab161c0f14309682a39e9fc2555d3", func := "syndic/syndiclaw08.TouchFar", spec := "touchFar", inPlace := ["internal/bytealg.IndexByteString", "internal/abi.NoEscape", "internal/bytealg.MakeNoZero"], unfollowed := true, recurses := true, plainKeys := false, apart := false }
def TouchFarSaid : Prop := touchFarRow.holds Try.pinned (OpenSpec.ofChange touchFarSpec)

/-- ITS FALSE NEIGHBOUR: 'it returns false'. Refute it at one input. -/
def touchFarWrong : ChangeSpec := { name := "touchFar", fn := fun _ => fun
  | [d1, d2] => { results := [.lit (.bool false)], args := [d1, d2] }
  | _ => none }
def TouchFarWrongFalsely : Prop := touchFarRow.holds Try.pinned (OpenSpec.ofChange touchFarWrong)

/-- 'syndiclaw08.TouchCells': WHATEVER THE INPUT: true; the input reads as it did. -/
def touchCellsSpec : ChangeSpec := { name := "touchCells", fn := fun _ => fun
  | [d] => { results := [.lit (.bool true)], args := [d] }
  | _ => none }
def touchCellsRow : OpenClaim := { program := "ytejkkmiaffbjbaa", sum := "1f26488e91ed25af3aad02d2d8dda01ab5dab161c0f14309682a39e9fc2555d3", func := "syndic/syndiclaw08.TouchCells", spec := "touchCells", inPlace := ["internal/bytealg.IndexByteString", "internal/abi.NoEscape", "internal/bytealg.MakeNoZero"], unfollowed := true, recurses := true, plainKeys := false, apart := false }
def TouchCellsSaid : Prop := touchCellsRow.holds Try.pinned (OpenSpec.ofChange touchCellsSpec)

/-- ITS FALSE NEIGHBOUR: 'it returns false'. Refute it at one input. -/
def touchCellsWrong : ChangeSpec := { name := "touchCells", fn := fun _ => fun
  | [d] => { results := [.lit (.bool false)], args := [d] }
  | _ => none }
def TouchCellsWrongFalsely : Prop := touchCellsRow.holds Try.pinned (OpenSpec.ofChange touchCellsWrong)

/- THE SECOND FORM. 'bulk': how many values and letters a reading holds, each counted each time it is reached (what is shared counts as often as it is met; a slice's spare places count too). A statement '..UptoSaid' is the law's where the arguments, and the package variables that the reading takes, are together of bulk at most 1048576: NARROWER than '..Said'. Prove '..Said' where nothing that the law and all that it calls make is longer than what came in: it says more and counts as full. Else prove '..UptoSaid'. A law counts once. -/
mutual
def uptoBulk {H : Type} : DataW H → Nat
  | .lit (.string bytes) => bytes.length + 1
  | .lit _ => 1
  | .nil => 1
  | .ptr d => uptoBulk d + 1
  | .slice elems spare => uptoBulkAll elems + uptoBulkAll spare + 1
  | .agg parts => uptoBulkAll parts + 1
  | .iface _ d => uptoBulk d + 1
  | .map entries => uptoBulkEntries entries + 1
  | .held _ => 1
def uptoBulkAll {H : Type} : List (DataW H) → Nat
  | [] => 0
  | d :: r => uptoBulk d + uptoBulkAll r
def uptoBulkEntries {H : Type} : List (Lit × DataW H) → Nat
  | [] => 0
  | x :: r => uptoBulkEntry x + uptoBulkEntries r
def uptoBulkEntry {H : Type} : Lit × DataW H → Nat
  | (.string bytes, d) => bytes.length + uptoBulk d + 1
  | (_, d) => uptoBulk d + 1
 end
def uptoSmall : (H : Type) → List (DataW H) → Bool := fun _ ds => decide (uptoBulkAll ds ≤ 1048576)
def OpenSpec.upto (s : _root_.Go.ChangeSpec) : _root_.Go.OpenSpec := { _root_.Go.OpenSpec.ofChange s with cond := some uptoSmall }

/-- 'syndiclaw06.PathsTells', WHERE WHAT IT READS IS OF BULK AT MOST 1048576: true; the input reads as it did. -/
def pathsTellsUptoRow : OpenClaim := { program := "ytejkkmiaffbjbaa", sum := "1f26488e91ed25af3aad02d2d8dda01ab5dab161c0f14309682a39e9fc2555d3", func := "syndic/syndiclaw06.PathsTells", spec := "pathsTells", inPlace := ["internal/bytealg.IndexByteString", "internal/abi.NoEscape", "internal/bytealg.MakeNoZero", "internal/bytealg.abigen_runtime_cmpstring"], unfollowed := true, recurses := true, plainKeys := false, apart := false, narrowed := true }
def PathsTellsUptoSaid : Prop := pathsTellsUptoRow.holds Try.pinned (OpenSpec.upto pathsTellsSpec)

/-- 'syndiclaw06.PathsOf', WHERE WHAT IT READS IS OF BULK AT MOST 1048576: true; the input reads as it did. -/
def pathsOfUptoRow : OpenClaim := { program := "ytejkkmiaffbjbaa", sum := "1f26488e91ed25af3aad02d2d8dda01ab5dab161c0f14309682a39e9fc2555d3", func := "syndic/syndiclaw06.PathsOf", spec := "pathsOf", inPlace := ["internal/bytealg.IndexByteString", "internal/abi.NoEscape", "internal/bytealg.MakeNoZero", "internal/bytealg.abigen_runtime_cmpstring"], unfollowed := true, recurses := true, plainKeys := false, apart := false, narrowed := true }
def PathsOfUptoSaid : Prop := pathsOfUptoRow.holds Try.pinned (OpenSpec.upto pathsOfSpec)

/-- 'syndiclaw06.PathsUp', WHERE WHAT IT READS IS OF BULK AT MOST 1048576: true; the input reads as it did. -/
def pathsUpUptoRow : OpenClaim := { program := "ytejkkmiaffbjbaa", sum := "1f26488e91ed25af3aad02d2d8dda01ab5dab161c0f14309682a39e9fc2555d3", func := "syndic/syndiclaw06.PathsUp", spec := "pathsUp", inPlace := ["internal/bytealg.IndexByteString", "internal/abi.NoEscape", "internal/bytealg.MakeNoZero", "internal/bytealg.abigen_runtime_cmpstring"], unfollowed := true, recurses := true, plainKeys := false, apart := false, narrowed := true }
def PathsUpUptoSaid : Prop := pathsUpUptoRow.holds Try.pinned (OpenSpec.upto pathsUpSpec)

/-- 'syndiclaw06.PathsOrder', WHERE WHAT IT READS IS OF BULK AT MOST 1048576: true; the input reads as it did. -/
def pathsOrderUptoRow : OpenClaim := { program := "ytejkkmiaffbjbaa", sum := "1f26488e91ed25af3aad02d2d8dda01ab5dab161c0f14309682a39e9fc2555d3", func := "syndic/syndiclaw06.PathsOrder", spec := "pathsOrder", inPlace := ["internal/bytealg.IndexByteString", "internal/abi.NoEscape", "internal/bytealg.MakeNoZero", "internal/bytealg.abigen_runtime_cmpstring"], unfollowed := true, recurses := true, plainKeys := false, apart := false, narrowed := true }
def PathsOrderUptoSaid : Prop := pathsOrderUptoRow.holds Try.pinned (OpenSpec.upto pathsOrderSpec)

/-- 'syndiclaw06.PathsJoin', WHERE WHAT IT READS IS OF BULK AT MOST 1048576: true; the input reads as it did. -/
def pathsJoinUptoRow : OpenClaim := { program := "ytejkkmiaffbjbaa", sum := "1f26488e91ed25af3aad02d2d8dda01ab5dab161c0f14309682a39e9fc2555d3", func := "syndic/syndiclaw06.PathsJoin", spec := "pathsJoin", inPlace := ["internal/bytealg.IndexByteString", "internal/abi.NoEscape", "internal/bytealg.MakeNoZero", "internal/bytealg.abigen_runtime_cmpstring"], unfollowed := true, recurses := true, plainKeys := false, apart := false, narrowed := true }
def PathsJoinUptoSaid : Prop := pathsJoinUptoRow.holds Try.pinned (OpenSpec.upto pathsJoinSpec)

/-- 'syndiclaw06.PathsShort', WHERE WHAT IT READS IS OF BULK AT MOST 1048576: true; the input reads as it did. -/
def pathsShortUptoRow : OpenClaim := { program := "ytejkkmiaffbjbaa", sum := "1f26488e91ed25af3aad02d2d8dda01ab5dab161c0f14309682a39e9fc2555d3", func := "syndic/syndiclaw06.PathsShort", spec := "pathsShort", inPlace := ["internal/bytealg.IndexByteString", "internal/abi.NoEscape", "internal/bytealg.MakeNoZero", "internal/bytealg.abigen_runtime_cmpstring"], unfollowed := true, recurses := true, plainKeys := false, apart := false, narrowed := true }
def PathsShortUptoSaid : Prop := pathsShortUptoRow.holds Try.pinned (OpenSpec.upto pathsShortSpec)

/-- 'syndiclaw08.TouchTells', WHERE WHAT IT READS IS OF BULK AT MOST 1048576: true; the input reads as it did. -/
def touchTellsUptoRow : OpenClaim := { program := "ytejkkmiaffbjbaa", sum := "1f26488e91ed25af3aad02d2d8dda01ab5dab161c0f14309682a39e9fc2555d3", func := "syndic/syndiclaw08.TouchTells", spec := "touchTells", inPlace := ["internal/bytealg.IndexByteString", "internal/abi.NoEscape", "internal/bytealg.MakeNoZero"], unfollowed := true, recurses := true, plainKeys := false, apart := false, narrowed := true }
def TouchTellsUptoSaid : Prop := touchTellsUptoRow.holds Try.pinned (OpenSpec.upto touchTellsSpec)

/-- 'syndiclaw08.TouchBoth', WHERE WHAT IT READS IS OF BULK AT MOST 1048576: true; the input reads as it did. -/
def touchBothUptoRow : OpenClaim := { program := "ytejkkmiaffbjbaa", sum := "1f26488e91ed25af3aad02d2d8dda01ab5dab161c0f14309682a39e9fc2555d3", func := "syndic/syndiclaw08.TouchBoth", spec := "touchBoth", inPlace := ["internal/bytealg.IndexByteString", "internal/abi.NoEscape", "internal/bytealg.MakeNoZero"], unfollowed := true, recurses := true, plainKeys := false, apart := false, narrowed := true }
def TouchBothUptoSaid : Prop := touchBothUptoRow.holds Try.pinned (OpenSpec.upto touchBothSpec)

/-- 'syndiclaw08.TouchFar', WHERE WHAT IT READS IS OF BULK AT MOST 1048576: true; the input reads as it did. -/
def touchFarUptoRow : OpenClaim := { program := "ytejkkmiaffbjbaa", sum := "1f26488e91ed25af3aad02d2d8dda01ab5dab161c0f14309682a39e9fc2555d3", func := "syndic/syndiclaw08.TouchFar", spec := "touchFar", inPlace := ["internal/bytealg.IndexByteString", "internal/abi.NoEscape", "internal/bytealg.MakeNoZero"], unfollowed := true, recurses := true, plainKeys := false, apart := false, narrowed := true }
def TouchFarUptoSaid : Prop := touchFarUptoRow.holds Try.pinned (OpenSpec.upto touchFarSpec)

/-- 'syndiclaw08.TouchCells', WHERE WHAT IT READS IS OF BULK AT MOST 1048576: true; the input reads as it did. -/
def touchCellsUptoRow : OpenClaim := { program := "ytejkkmiaffbjbaa", sum := "1f26488e91ed25af3aad02d2d8dda01ab5dab161c0f14309682a39e9fc2555d3", func := "syndic/syndiclaw08.TouchCells", spec := "touchCells", inPlace := ["internal/bytealg.IndexByteString", "internal/abi.NoEscape", "internal/bytealg.MakeNoZero"], unfollowed := true, recurses := true, plainKeys := false, apart := false, narrowed := true }
def TouchCellsUptoSaid : Prop := touchCellsUptoRow.holds Try.pinned (OpenSpec.upto touchCellsSpec)

end Rows
end Go.Proofs.Ytejkkmiaffbjbaa
