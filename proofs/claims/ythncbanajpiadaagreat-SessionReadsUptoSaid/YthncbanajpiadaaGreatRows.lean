/-
  No cell of these rows narrows 'for every input' (looked for: loops, veiled, ifaces, maps, wideKeys, modest, calm, conditions, laid).
  DERIVED. THE GIVEN ROWS OF THIS SEAT. 7 by the template 'for every input the law returns true; each argument reads behind the call as it read before'; 0 by the template 'total and deterministic' (their statements: YthncbanajpiadaaGreatTotals.lean).
  GIVEN WITH THE SEED: the statements are not yours to turn. If you find one false, say at which input.
  Laid BY PROGRAM, IN A SANDBOX (cutbox-rows.mjs): the forced cells as the released guide's own fill.sh prints them over the translation 96f80588ffc926e2… (all of the seat's roots in one cut). By AI agents, Wed Nov 11 2026. No macro, syntax, notation, axiom, sorry.
-/
import Derived.Test.YthncbanajpiadaaGreatChecked
import GoSem.Claim
import GoSem.ClaimJoined
import GoSem.ClaimMapViews
import Derived.JoinedTies
import Derived.KernelRfl
namespace Go.Proofs.YthncbanajpiadaaGreat
/- THE CELL 'sum', in the pinned program and in every row, IS THE sha256 OF THE DUMP (.gsa) THAT YthncbanajpiadaaGreatProg.lean LOADS. Nothing in Lean hashes anything: it is a label: what it is worth is what the hold of that sum in a sandbox is worth. -/
noncomputable def Tryz.pinned : Pinned := { name := "ythncbanajpiadaagreat", sum := "96f80588ffc926e226e2ff9a38c6de6087d28939ede4d143b875142046dbd292", checked := Tryz.checked }
namespace Rows
def none {H : Type} : Left H := { results := [], args := [] }

/-- 'syndiclaw09.SessionOnce': WHATEVER THE INPUT: true; the input reads as it did. -/
def sessionOnceSpec : ChangeSpec := { name := "sessionOnce", fn := fun _ => fun
  | [d1, d2, d3] => { results := [.lit (.bool true)], args := [d1, d2, d3] }
  | _ => none }
def sessionOnceRow : OpenClaim := { program := "ythncbanajpiadaagreat", sum := "96f80588ffc926e226e2ff9a38c6de6087d28939ede4d143b875142046dbd292", func := "syndic/syndiclaw09.SessionOnce", spec := "sessionOnce", inPlace := ["internal/bytealg.IndexByteString", "internal/abi.NoEscape", "internal/bytealg.MakeNoZero", "internal/bytealg.abigen_runtime_cmpstring", "maps.clone"], unfollowed := true, recurses := true, plainKeys := false, apart := false }
def SessionOnceSaid : Prop := sessionOnceRow.holds Tryz.pinned (OpenSpec.ofChange sessionOnceSpec)

/-- ITS FALSE NEIGHBOUR: 'it returns false'. Refute it at one input. -/
def sessionOnceWrong : ChangeSpec := { name := "sessionOnce", fn := fun _ => fun
  | [d1, d2, d3] => { results := [.lit (.bool false)], args := [d1, d2, d3] }
  | _ => none }
def SessionOnceWrongFalsely : Prop := sessionOnceRow.holds Tryz.pinned (OpenSpec.ofChange sessionOnceWrong)

/-- 'syndiclaw09.SessionSnap': WHATEVER THE INPUT: true; the input reads as it did. -/
def sessionSnapSpec : ChangeSpec := { name := "sessionSnap", fn := fun _ => fun
  | [d1, d2] => { results := [.lit (.bool true)], args := [d1, d2] }
  | _ => none }
def sessionSnapRow : OpenClaim := { program := "ythncbanajpiadaagreat", sum := "96f80588ffc926e226e2ff9a38c6de6087d28939ede4d143b875142046dbd292", func := "syndic/syndiclaw09.SessionSnap", spec := "sessionSnap", inPlace := ["internal/bytealg.IndexByteString", "internal/abi.NoEscape", "internal/bytealg.MakeNoZero", "internal/bytealg.abigen_runtime_cmpstring", "maps.clone"], unfollowed := true, recurses := true, plainKeys := false, apart := false }
def SessionSnapSaid : Prop := sessionSnapRow.holds Tryz.pinned (OpenSpec.ofChange sessionSnapSpec)

/-- ITS FALSE NEIGHBOUR: 'it returns false'. Refute it at one input. -/
def sessionSnapWrong : ChangeSpec := { name := "sessionSnap", fn := fun _ => fun
  | [d1, d2] => { results := [.lit (.bool false)], args := [d1, d2] }
  | _ => none }
def SessionSnapWrongFalsely : Prop := sessionSnapRow.holds Tryz.pinned (OpenSpec.ofChange sessionSnapWrong)

/-- 'syndiclaw09.SessionOlds': WHATEVER THE INPUT: true; the input reads as it did. -/
def sessionOldsSpec : ChangeSpec := { name := "sessionOlds", fn := fun _ => fun
  | [d1, d2, d3] => { results := [.lit (.bool true)], args := [d1, d2, d3] }
  | _ => none }
def sessionOldsRow : OpenClaim := { program := "ythncbanajpiadaagreat", sum := "96f80588ffc926e226e2ff9a38c6de6087d28939ede4d143b875142046dbd292", func := "syndic/syndiclaw09.SessionOlds", spec := "sessionOlds", inPlace := ["internal/bytealg.IndexByteString", "internal/abi.NoEscape", "internal/bytealg.MakeNoZero", "internal/bytealg.abigen_runtime_cmpstring", "maps.clone"], unfollowed := true, recurses := true, plainKeys := false, apart := false }
def SessionOldsSaid : Prop := sessionOldsRow.holds Tryz.pinned (OpenSpec.ofChange sessionOldsSpec)

/-- ITS FALSE NEIGHBOUR: 'it returns false'. Refute it at one input. -/
def sessionOldsWrong : ChangeSpec := { name := "sessionOlds", fn := fun _ => fun
  | [d1, d2, d3] => { results := [.lit (.bool false)], args := [d1, d2, d3] }
  | _ => none }
def SessionOldsWrongFalsely : Prop := sessionOldsRow.holds Tryz.pinned (OpenSpec.ofChange sessionOldsWrong)

/-- 'syndiclaw09.SessionNone': WHATEVER THE INPUT: true; the input reads as it did. -/
def sessionNoneSpec : ChangeSpec := { name := "sessionNone", fn := fun _ => fun
  | [d1, d2] => { results := [.lit (.bool true)], args := [d1, d2] }
  | _ => none }
def sessionNoneRow : OpenClaim := { program := "ythncbanajpiadaagreat", sum := "96f80588ffc926e226e2ff9a38c6de6087d28939ede4d143b875142046dbd292", func := "syndic/syndiclaw09.SessionNone", spec := "sessionNone", inPlace := ["internal/bytealg.IndexByteString", "internal/abi.NoEscape", "internal/bytealg.MakeNoZero", "internal/bytealg.abigen_runtime_cmpstring", "maps.clone"], unfollowed := true, recurses := true, plainKeys := false, apart := false }
def SessionNoneSaid : Prop := sessionNoneRow.holds Tryz.pinned (OpenSpec.ofChange sessionNoneSpec)

/-- ITS FALSE NEIGHBOUR: 'it returns false'. Refute it at one input. -/
def sessionNoneWrong : ChangeSpec := { name := "sessionNone", fn := fun _ => fun
  | [d1, d2] => { results := [.lit (.bool false)], args := [d1, d2] }
  | _ => none }
def SessionNoneWrongFalsely : Prop := sessionNoneRow.holds Tryz.pinned (OpenSpec.ofChange sessionNoneWrong)

/-- 'syndiclaw09.SessionReads': WHATEVER THE INPUT: true; the input reads as it did. -/
def sessionReadsSpec : ChangeSpec := { name := "sessionReads", fn := fun _ => fun
  | [d1, d2, d3] => { results := [.lit (.bool true)], args := [d1, d2, d3] }
  | _ => none }
def sessionReadsRow : OpenClaim := { program := "ythncbanajpiadaagreat", sum := "96f80588ffc926e226e2ff9a38c6de6087d28939ede4d143b875142046dbd292", func := "syndic/syndiclaw09.SessionReads", spec := "sessionReads", inPlace := ["internal/bytealg.IndexByteString", "internal/abi.NoEscape", "internal/bytealg.MakeNoZero", "internal/bytealg.abigen_runtime_cmpstring", "maps.clone"], unfollowed := true, recurses := true, plainKeys := false, apart := false }
def SessionReadsSaid : Prop := sessionReadsRow.holds Tryz.pinned (OpenSpec.ofChange sessionReadsSpec)

/-- ITS FALSE NEIGHBOUR: 'it returns false'. Refute it at one input. -/
def sessionReadsWrong : ChangeSpec := { name := "sessionReads", fn := fun _ => fun
  | [d1, d2, d3] => { results := [.lit (.bool false)], args := [d1, d2, d3] }
  | _ => none }
def SessionReadsWrongFalsely : Prop := sessionReadsRow.holds Tryz.pinned (OpenSpec.ofChange sessionReadsWrong)

/-- 'syndiclaw09.SessionSwaps': WHATEVER THE INPUT: true; the input reads as it did. -/
def sessionSwapsSpec : ChangeSpec := { name := "sessionSwaps", fn := fun _ => fun
  | [d1, d2, d3] => { results := [.lit (.bool true)], args := [d1, d2, d3] }
  | _ => none }
def sessionSwapsRow : OpenClaim := { program := "ythncbanajpiadaagreat", sum := "96f80588ffc926e226e2ff9a38c6de6087d28939ede4d143b875142046dbd292", func := "syndic/syndiclaw09.SessionSwaps", spec := "sessionSwaps", inPlace := ["internal/bytealg.IndexByteString", "internal/abi.NoEscape", "internal/bytealg.MakeNoZero", "internal/bytealg.abigen_runtime_cmpstring", "maps.clone"], unfollowed := true, recurses := true, plainKeys := false, apart := false }
def SessionSwapsSaid : Prop := sessionSwapsRow.holds Tryz.pinned (OpenSpec.ofChange sessionSwapsSpec)

/-- ITS FALSE NEIGHBOUR: 'it returns false'. Refute it at one input. -/
def sessionSwapsWrong : ChangeSpec := { name := "sessionSwaps", fn := fun _ => fun
  | [d1, d2, d3] => { results := [.lit (.bool false)], args := [d1, d2, d3] }
  | _ => none }
def SessionSwapsWrongFalsely : Prop := sessionSwapsRow.holds Tryz.pinned (OpenSpec.ofChange sessionSwapsWrong)

/-- 'syndiclaw11.AttrLocal': WHATEVER THE INPUT: true; the input reads as it did. -/
def attrLocalSpec : ChangeSpec := { name := "attrLocal", fn := fun _ => fun
  | [d1, d2, d3, d4] => { results := [.lit (.bool true)], args := [d1, d2, d3, d4] }
  | _ => none }
def attrLocalRow : OpenClaim := { program := "ythncbanajpiadaagreat", sum := "96f80588ffc926e226e2ff9a38c6de6087d28939ede4d143b875142046dbd292", func := "syndic/syndiclaw11.AttrLocal", spec := "attrLocal", inPlace := ["internal/bytealg.IndexByteString", "internal/abi.NoEscape", "internal/bytealg.MakeNoZero"], unfollowed := true, recurses := true, plainKeys := false, apart := false }
def AttrLocalSaid : Prop := attrLocalRow.holds Tryz.pinned (OpenSpec.ofChange attrLocalSpec)

/-- ITS FALSE NEIGHBOUR: 'it returns false'. Refute it at one input. -/
def attrLocalWrong : ChangeSpec := { name := "attrLocal", fn := fun _ => fun
  | [d1, d2, d3, d4] => { results := [.lit (.bool false)], args := [d1, d2, d3, d4] }
  | _ => none }
def AttrLocalWrongFalsely : Prop := attrLocalRow.holds Tryz.pinned (OpenSpec.ofChange attrLocalWrong)

/- THE SECOND FORM. 'bulk': how many values and letters a reading holds, each counted each time it is reached (what is shared counts as often as it is met; a slice's spare places count too). A statement '..UptoSaid' is the law's where the arguments, and the package variables that the reading takes, are together of bulk at most 1048576: NARROWER than '..Said'. Prove '..Said' where nothing that the law and all that it calls make is longer than what came in: it says more and counts as full. Else prove '..UptoSaid'. A law counts once. -/
mutual
def uptoBulk {H : Type} : DataW H → Nat
  | .lit (.string bytes) => bytes.length + 1
  | .lit _ => 1
  | .nil => 1
  | .ptr d => uptoBulk d + 1
  | .slice elems spare => uptoBulkAll elems + uptoBulkAll spare + 1
  | .agg parts => uptoBulkAll parts + 1
  | .iface _ d => uptoBulk d + 1
  | .map entries => uptoBulkEntries entries + 1
  | .held _ => 1
def uptoBulkAll {H : Type} : List (DataW H) → Nat
  | [] => 0
  | d :: r => uptoBulk d + uptoBulkAll r
def uptoBulkEntries {H : Type} : List (Lit × DataW H) → Nat
  | [] => 0
  | x :: r => uptoBulkEntry x + uptoBulkEntries r
def uptoBulkEntry {H : Type} : Lit × DataW H → Nat
  | (.string bytes, d) => bytes.length + uptoBulk d + 1
  | (_, d) => uptoBulk d + 1
 end
def uptoSmall : (H : Type) → List (DataW H) → Bool := fun _ ds => decide (uptoBulkAll ds ≤ 1048576)
def OpenSpec.upto (s : _root_.Go.ChangeSpec) : _root_.Go.OpenSpec := { _root_.Go.OpenSpec.ofChange s with cond := some uptoSmall }

/-- 'syndiclaw09.SessionOnce', WHERE WHAT IT READS IS OF BULK AT MOST 1048576: true; the input reads as it did. -/
def sessionOnceUptoRow : OpenClaim := { program := "ythncbanajpiadaagreat", sum := "96f80588ffc926e226e2ff9a38c6de6087d28939ede4d143b875142046dbd292", func := "syndic/syndiclaw09.SessionOnce", spec := "sessionOnce", inPlace := ["internal/bytealg.IndexByteString", "internal/abi.NoEscape", "internal/bytealg.MakeNoZero", "internal/bytealg.abigen_runtime_cmpstring", "maps.clone"], unfollowed := true, recurses := true, plainKeys := false, apart := false, narrowed := true }
def SessionOnceUptoSaid : Prop := sessionOnceUptoRow.holds Tryz.pinned (OpenSpec.upto sessionOnceSpec)

/-- 'syndiclaw09.SessionSnap', WHERE WHAT IT READS IS OF BULK AT MOST 1048576: true; the input reads as it did. -/
def sessionSnapUptoRow : OpenClaim := { program := "ythncbanajpiadaagreat", sum := "96f80588ffc926e226e2ff9a38c6de6087d28939ede4d143b875142046dbd292", func := "syndic/syndiclaw09.SessionSnap", spec := "sessionSnap", inPlace := ["internal/bytealg.IndexByteString", "internal/abi.NoEscape", "internal/bytealg.MakeNoZero", "internal/bytealg.abigen_runtime_cmpstring", "maps.clone"], unfollowed := true, recurses := true, plainKeys := false, apart := false, narrowed := true }
def SessionSnapUptoSaid : Prop := sessionSnapUptoRow.holds Tryz.pinned (OpenSpec.upto sessionSnapSpec)

/-- 'syndiclaw09.SessionOlds', WHERE WHAT IT READS IS OF BULK AT MOST 1048576: true; the input reads as it did. -/
def sessionOldsUptoRow : OpenClaim := { program := "ythncbanajpiadaagreat", sum := "96f80588ffc926e226e2ff9a38c6de6087d28939ede4d143b875142046dbd292", func := "syndic/syndiclaw09.SessionOlds", spec := "sessionOlds", inPlace := ["internal/bytealg.IndexByteString", "internal/abi.NoEscape", "internal/bytealg.MakeNoZero", "internal/bytealg.abigen_runtime_cmpstring", "maps.clone"], unfollowed := true, recurses := true, plainKeys := false, apart := false, narrowed := true }
def SessionOldsUptoSaid : Prop := sessionOldsUptoRow.holds Tryz.pinned (OpenSpec.upto sessionOldsSpec)

/-- 'syndiclaw09.SessionNone', WHERE WHAT IT READS IS OF BULK AT MOST 1048576: true; the input reads as it did. -/
def sessionNoneUptoRow : OpenClaim := { program := "ythncbanajpiadaagreat", sum := "96f80588ffc926e226e2ff9a38c6de6087d28939ede4d143b875142046dbd292", func := "syndic/syndiclaw09.SessionNone", spec := "sessionNone", inPlace := ["internal/bytealg.IndexByteString", "internal/abi.NoEscape", "internal/bytealg.MakeNoZero", "internal/bytealg.abigen_runtime_cmpstring", "maps.clone"], unfollowed := true, recurses := true, plainKeys := false, apart := false, narrowed := true }
def SessionNoneUptoSaid : Prop := sessionNoneUptoRow.holds Tryz.pinned (OpenSpec.upto sessionNoneSpec)

/-- 'syndiclaw09.SessionReads', WHERE WHAT IT READS IS OF BULK AT MOST 1048576: true; the input reads as it did. -/
def sessionReadsUptoRow : OpenClaim := { program := "ythncbanajpiadaagreat", sum := "96f80588ffc926e226e2ff9a38c6de6087d28939ede4d143b875142046dbd292", func := "syndic/syndiclaw09.SessionReads", spec := "sessionReads", inPlace := ["internal/bytealg.IndexByteString", "internal/abi.NoEscape", "internal/bytealg.MakeNoZero", "internal/bytealg.abigen_runtime_cmpstring", "maps.clone"], unfollowed := true, recurses := true, plainKeys := false, apart := false, narrowed := true }
def SessionReadsUptoSaid : Prop := sessionReadsUptoRow.holds Tryz.pinned (OpenSpec.upto sessionReadsSpec)

/-- 'syndiclaw09.SessionSwaps', WHERE WHAT IT READS IS OF BULK AT MOST 1048576: true; the input reads as it did. -/
def sessionSwapsUptoRow : OpenClaim := { program := "ythncbanajpiadaagreat", sum := "96f80588ffc926e226e2ff9a38c6de6087d28939ede4d143b875142046dbd292", func := "syndic/syndiclaw09.SessionSwaps", spec := "sessionSwaps", inPlace := ["internal/bytealg.IndexByteString", "internal/abi.NoEscape", "internal/bytealg.MakeNoZero", "internal/bytealg.abigen_runtime_cmpstring", "maps.clone"], unfollowed := true, recurses := true, plainKeys := false, apart := false, narrowed := true }
def SessionSwapsUptoSaid : Prop := sessionSwapsUptoRow.holds Tryz.pinned (OpenSpec.upto sessionSwapsSpec)

/-- 'syndiclaw11.AttrLocal', WHERE WHAT IT READS IS OF BULK AT MOST 1048576: true; the input reads as it did. -/
def attrLocalUptoRow : OpenClaim := { program := "ythncbanajpiadaagreat", sum := "96f80588ffc926e226e2ff9a38c6de6087d28939ede4d143b875142046dbd292", func := "syndic/syndiclaw11.AttrLocal", spec := "attrLocal", inPlace := ["internal/bytealg.IndexByteString", "internal/abi.NoEscape", "internal/bytealg.MakeNoZero"], unfollowed := true, recurses := true, plainKeys := false, apart := false, narrowed := true }
def AttrLocalUptoSaid : Prop := attrLocalUptoRow.holds Tryz.pinned (OpenSpec.upto attrLocalSpec)

end Rows
end Go.Proofs.YthncbanajpiadaaGreat
