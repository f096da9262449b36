/-
  No cell of these rows narrows 'for every input' (looked for: loops, veiled, ifaces, maps, wideKeys, modest, calm, conditions, laid).
  DERIVED. THE GIVEN ROWS OF THIS SEAT. 5 by the template 'for every input the law returns true; each argument reads behind the call as it read before'; 0 by the template 'total and deterministic' (their statements: YtpbknejlalkfjaaTotals.lean).
  GIVEN WITH THE SEED: the statements are not yours to turn. If you find one false, say at which input.
  Laid BY PROGRAM, IN A SANDBOX (cutbox-rows.mjs): the forced cells as the released guide's own fill.sh prints them over the translation b3e66b64e0f8507c… (all of the seat's roots in one cut). By AI agents, Wed Nov 11 2026. No macro, syntax, notation, axiom, sorry.
-/
import Derived.Test.YtpbknejlalkfjaaChecked
import GoSem.Claim
import GoSem.ClaimJoined
import GoSem.ClaimMapViews
import Derived.JoinedTies
import Derived.KernelRfl
namespace Go.Proofs.Ytpbknejlalkfjaa
/- THE CELL 'sum', in the pinned program and in every row, IS THE sha256 OF THE DUMP (.gsa) THAT YtpbknejlalkfjaaProg.lean LOADS. Nothing in Lean hashes anything: it is a label: what it is worth is what the hold of that sum in a sandbox is worth. -/
noncomputable def Try.pinned : Pinned := { name := "ytpbknejlalkfjaa", sum := "b3e66b64e0f8507c40b6d5fb73bf1c79cd235af92c131493bfe19c83cf0d4adc", checked := Try.checked }
namespace Rows
def none {H : Type} : Left H := { results := [], args := [] }

/-- 'syndiclaw16.LeadTells': WHATEVER THE INPUT: true; the input reads as it did. -/
def leadTellsSpec : ChangeSpec := { name := "leadTells", fn := fun _ => fun
  | [d1, d2, d3, d4] => { results := [.lit (.bool true)], args := [d1, d2, d3, d4] }
  | _ => none }
def leadTellsRow : OpenClaim := { program := "ytpbknejlalkfjaa", sum := "b3e66b64e0f8507c40b6d5fb73bf1c79cd235af92c131493bfe19c83cf0d4adc", func := "syndic/syndiclaw16.LeadTells", spec := "leadTells", unfollowed := true, recurses := true, plainKeys := false, apart := false }
def LeadTellsSaid : Prop := leadTellsRow.holds Try.pinned (OpenSpec.ofChange leadTellsSpec)

/-- ITS FALSE NEIGHBOUR: 'it returns false'. Refute it at one input. -/
def leadTellsWrong : ChangeSpec := { name := "leadTells", fn := fun _ => fun
  | [d1, d2, d3, d4] => { results := [.lit (.bool false)], args := [d1, d2, d3, d4] }
  | _ => none }
def LeadTellsWrongFalsely : Prop := leadTellsRow.holds Try.pinned (OpenSpec.ofChange leadTellsWrong)

/-- 'syndiclaw16.LeadSlow': WHATEVER THE INPUT: true; the input reads as it did. -/
def leadSlowSpec : ChangeSpec := { name := "leadSlow", fn := fun _ => fun
  | [d1, d2, d3] => { results := [.lit (.bool true)], args := [d1, d2, d3] }
  | _ => none }
def leadSlowRow : OpenClaim := { program := "ytpbknejlalkfjaa", sum := "b3e66b64e0f8507c40b6d5fb73bf1c79cd235af92c131493bfe19c83cf0d4adc", func := "syndic/syndiclaw16.LeadSlow", spec := "leadSlow", unfollowed := true, recurses := true, plainKeys := false, apart := false }
def LeadSlowSaid : Prop := leadSlowRow.holds Try.pinned (OpenSpec.ofChange leadSlowSpec)

/-- ITS FALSE NEIGHBOUR: 'it returns false'. Refute it at one input. -/
def leadSlowWrong : ChangeSpec := { name := "leadSlow", fn := fun _ => fun
  | [d1, d2, d3] => { results := [.lit (.bool false)], args := [d1, d2, d3] }
  | _ => none }
def LeadSlowWrongFalsely : Prop := leadSlowRow.holds Try.pinned (OpenSpec.ofChange leadSlowWrong)

/-- 'syndiclaw16.LeadCommand': WHATEVER THE INPUT: true; the input reads as it did. -/
def leadCommandSpec : ChangeSpec := { name := "leadCommand", fn := fun _ => fun
  | [d1, d2, d3] => { results := [.lit (.bool true)], args := [d1, d2, d3] }
  | _ => none }
def leadCommandRow : OpenClaim := { program := "ytpbknejlalkfjaa", sum := "b3e66b64e0f8507c40b6d5fb73bf1c79cd235af92c131493bfe19c83cf0d4adc", func := "syndic/syndiclaw16.LeadCommand", spec := "leadCommand", unfollowed := true, recurses := true, plainKeys := false, apart := false }
def LeadCommandSaid : Prop := leadCommandRow.holds Try.pinned (OpenSpec.ofChange leadCommandSpec)

/-- ITS FALSE NEIGHBOUR: 'it returns false'. Refute it at one input. -/
def leadCommandWrong : ChangeSpec := { name := "leadCommand", fn := fun _ => fun
  | [d1, d2, d3] => { results := [.lit (.bool false)], args := [d1, d2, d3] }
  | _ => none }
def LeadCommandWrongFalsely : Prop := leadCommandRow.holds Try.pinned (OpenSpec.ofChange leadCommandWrong)

/-- 'syndiclaw16.LeadNothing': WHATEVER THE INPUT: true; the input reads as it did. -/
def leadNothingSpec : ChangeSpec := { name := "leadNothing", fn := fun _ => fun
  | [d1, d2, d3, d4] => { results := [.lit (.bool true)], args := [d1, d2, d3, d4] }
  | _ => none }
def leadNothingRow : OpenClaim := { program := "ytpbknejlalkfjaa", sum := "b3e66b64e0f8507c40b6d5fb73bf1c79cd235af92c131493bfe19c83cf0d4adc", func := "syndic/syndiclaw16.LeadNothing", spec := "leadNothing", unfollowed := true, recurses := true, plainKeys := false, apart := false }
def LeadNothingSaid : Prop := leadNothingRow.holds Try.pinned (OpenSpec.ofChange leadNothingSpec)

/-- ITS FALSE NEIGHBOUR: 'it returns false'. Refute it at one input. -/
def leadNothingWrong : ChangeSpec := { name := "leadNothing", fn := fun _ => fun
  | [d1, d2, d3, d4] => { results := [.lit (.bool false)], args := [d1, d2, d3, d4] }
  | _ => none }
def LeadNothingWrongFalsely : Prop := leadNothingRow.holds Try.pinned (OpenSpec.ofChange leadNothingWrong)

/-- 'syndiclaw16.LeadBeaten': WHATEVER THE INPUT: true; the input reads as it did. -/
def leadBeatenSpec : ChangeSpec := { name := "leadBeaten", fn := fun _ => fun
  | [d1, d2, d3, d4] => { results := [.lit (.bool true)], args := [d1, d2, d3, d4] }
  | _ => none }
def leadBeatenRow : OpenClaim := { program := "ytpbknejlalkfjaa", sum := "b3e66b64e0f8507c40b6d5fb73bf1c79cd235af92c131493bfe19c83cf0d4adc", func := "syndic/syndiclaw16.LeadBeaten", spec := "leadBeaten", unfollowed := true, recurses := true, plainKeys := false, apart := false }
def LeadBeatenSaid : Prop := leadBeatenRow.holds Try.pinned (OpenSpec.ofChange leadBeatenSpec)

/-- ITS FALSE NEIGHBOUR: 'it returns false'. Refute it at one input. -/
def leadBeatenWrong : ChangeSpec := { name := "leadBeaten", fn := fun _ => fun
  | [d1, d2, d3, d4] => { results := [.lit (.bool false)], args := [d1, d2, d3, d4] }
  | _ => none }
def LeadBeatenWrongFalsely : Prop := leadBeatenRow.holds Try.pinned (OpenSpec.ofChange leadBeatenWrong)

/- THE SECOND FORM. 'bulk': how many values and letters a reading holds, each counted each time it is reached (what is shared counts as often as it is met; a slice's spare places count too). A statement '..UptoSaid' is the law's where the arguments, and the package variables that the reading takes, are together of bulk at most 1048576: NARROWER than '..Said'. Prove '..Said' where nothing that the law and all that it calls make is longer than what came in: it says more and counts as full. Else prove '..UptoSaid'. A law counts once. -/
mutual
def uptoBulk {H : Type} : DataW H → Nat
  | .lit (.string bytes) => bytes.length + 1
  | .lit _ => 1
  | .nil => 1
  | .ptr d => uptoBulk d + 1
  | .slice elems spare => uptoBulkAll elems + uptoBulkAll spare + 1
  | .agg parts => uptoBulkAll parts + 1
  | .iface _ d => uptoBulk d + 1
  | .map entries => uptoBulkEntries entries + 1
  | .held _ => 1
def uptoBulkAll {H : Type} : List (DataW H) → Nat
  | [] => 0
  | d :: r => uptoBulk d + uptoBulkAll r
def uptoBulkEntries {H : Type} : List (Lit × DataW H) → Nat
  | [] => 0
  | x :: r => uptoBulkEntry x + uptoBulkEntries r
def uptoBulkEntry {H : Type} : Lit × DataW H → Nat
  | (.string bytes, d) => bytes.length + uptoBulk d + 1
  | (_, d) => uptoBulk d + 1
 end
def uptoSmall : (H : Type) → List (DataW H) → Bool := fun _ ds => decide (uptoBulkAll ds ≤ 1048576)
def OpenSpec.upto (s : _root_.Go.ChangeSpec) : _root_.Go.OpenSpec := { _root_.Go.OpenSpec.ofChange s with cond := some uptoSmall }

/-- 'syndiclaw16.LeadTells', WHERE WHAT IT READS IS OF BULK AT MOST 1048576: true; the input reads as it did. -/
def leadTellsUptoRow : OpenClaim := { program := "ytpbknejlalkfjaa", sum := "b3e66b64e0f8507c40b6d5fb73bf1c79cd235af92c131493bfe19c83cf0d4adc", func := "syndic/syndiclaw16.LeadTells", spec := "leadTells", unfollowed := true, recurses := true, plainKeys := false, apart := false, narrowed := true }
def LeadTellsUptoSaid : Prop := leadTellsUptoRow.holds Try.pinned (OpenSpec.upto leadTellsSpec)

/-- 'syndiclaw16.LeadSlow', WHERE WHAT IT READS IS OF BULK AT MOST 1048576: true; the input reads as it did. -/
def leadSlowUptoRow : OpenClaim := { program := "ytpbknejlalkfjaa", sum := "b3e66b64e0f8507c40b6d5fb73bf1c79cd235af92c131493bfe19c83cf0d4adc", func := "syndic/syndiclaw16.LeadSlow", spec := "leadSlow", unfollowed := true, recurses := true, plainKeys := false, apart := false, narrowed := true }
def LeadSlowUptoSaid : Prop := leadSlowUptoRow.holds Try.pinned (OpenSpec.upto leadSlowSpec)

/-- 'syndiclaw16.LeadCommand', WHERE WHAT IT READS IS OF BULK AT MOST 1048576: true; the input reads as it did. -/
def leadCommandUptoRow : OpenClaim := { program := "ytpbknejlalkfjaa", sum := "b3e66b64e0f8507c40b6d5fb73bf1c79cd235af92c131493bfe19c83cf0d4adc", func := "syndic/syndiclaw16.LeadCommand", spec := "leadCommand", unfollowed := true, recurses := true, plainKeys := false, apart := false, narrowed := true }
def LeadCommandUptoSaid : Prop := leadCommandUptoRow.holds Try.pinned (OpenSpec.upto leadCommandSpec)

/-- 'syndiclaw16.LeadNothing', WHERE WHAT IT READS IS OF BULK AT MOST 1048576: true; the input reads as it did. -/
def leadNothingUptoRow : OpenClaim := { program := "ytpbknejlalkfjaa", sum := "b3e66b64e0f8507c40b6d5fb73bf1c79cd235af92c131493bfe19c83cf0d4adc", func := "syndic/syndiclaw16.LeadNothing", spec := "leadNothing", unfollowed := true, recurses := true, plainKeys := false, apart := false, narrowed := true }
def LeadNothingUptoSaid : Prop := leadNothingUptoRow.holds Try.pinned (OpenSpec.upto leadNothingSpec)

/-- 'syndiclaw16.LeadBeaten', WHERE WHAT IT READS IS OF BULK AT MOST 1048576: true; the input reads as it did. -/
def leadBeatenUptoRow : OpenClaim := { program := "ytpbknejlalkfjaa", sum := "b3e66b64e0f8507c40b6d5fb73bf1c79cd235af92c131493bfe19c83cf0d4adc", func := "syndic/syndiclaw16.LeadBeaten", spec := "leadBeaten", unfollowed := true, recurses := true, plainKeys := false, apart := false, narrowed := true }
def LeadBeatenUptoSaid : Prop := leadBeatenUptoRow.holds Try.pinned (OpenSpec.upto leadBeatenSpec)

end Rows
end Go.Proofs.Ytpbknejlalkfjaa
