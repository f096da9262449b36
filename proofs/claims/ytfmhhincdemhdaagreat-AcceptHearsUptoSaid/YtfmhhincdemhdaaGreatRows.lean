/-
  No cell of these rows narrows 'for every input' (looked for: loops, veiled, ifaces, maps, wideKeys, modest, calm, conditions, laid).
  DERIVED. THE GIVEN ROWS OF THIS SEAT. 8 by the template 'for every input the law returns true; each argument reads behind the call as it read before'; 0 by the template 'total and deterministic' (their statements: YtfmhhincdemhdaaGreatTotals.lean).
  GIVEN WITH THE SEED: the statements are not yours to turn. If you find one false, say at which input.
  Laid BY PROGRAM, IN A SANDBOX (cutbox-rows.mjs): the forced cells as the released guide's own fill.sh prints them over the translation 0032cca9ba4c86a2… (all of the seat's roots in one cut). By AI agents, Wed Nov 11 2026. No macro, syntax, notation, axiom, sorry.
-/
import Derived.Test.YtfmhhincdemhdaaGreatChecked
import GoSem.Claim
import GoSem.ClaimJoined
import GoSem.ClaimMapViews
import Derived.JoinedTies
import Derived.KernelRfl
namespace Go.Proofs.YtfmhhincdemhdaaGreat
/- THE CELL 'sum', in the pinned program and in every row, IS THE sha256 OF THE DUMP (.gsa) THAT YtfmhhincdemhdaaGreatProg.lean LOADS. Nothing in Lean hashes anything: it is a label: what it is worth is what the hold of that sum in a sandbox is worth. -/
noncomputable def Tryz.pinned : Pinned := { name := "ytfmhhincdemhdaagreat", sum := "0032cca9ba4c86a2a995881c4db6ce1cbc77b87733c02cd124f9e98a4acc5649", checked := Tryz.checked }
namespace Rows
def none {H : Type} : Left H := { results := [], args := [] }

/-- 'syndiclaw15.AcceptHears': WHATEVER THE INPUT: true; the input reads as it did. -/
def acceptHearsSpec : ChangeSpec := { name := "acceptHears", fn := fun _ => fun
  | [d1, d2, d3] => { results := [.lit (.bool true)], args := [d1, d2, d3] }
  | _ => none }
def acceptHearsRow : OpenClaim := { program := "ytfmhhincdemhdaagreat", sum := "0032cca9ba4c86a2a995881c4db6ce1cbc77b87733c02cd124f9e98a4acc5649", func := "syndic/syndiclaw15.AcceptHears", spec := "acceptHears", inPlace := ["internal/bytealg.IndexByteString", "internal/abi.NoEscape", "internal/bytealg.MakeNoZero"], unfollowed := true, recurses := true, plainKeys := false, apart := false }
def AcceptHearsSaid : Prop := acceptHearsRow.holds Tryz.pinned (OpenSpec.ofChange acceptHearsSpec)

/-- ITS FALSE NEIGHBOUR: 'it returns false'. Refute it at one input. -/
def acceptHearsWrong : ChangeSpec := { name := "acceptHears", fn := fun _ => fun
  | [d1, d2, d3] => { results := [.lit (.bool false)], args := [d1, d2, d3] }
  | _ => none }
def AcceptHearsWrongFalsely : Prop := acceptHearsRow.holds Tryz.pinned (OpenSpec.ofChange acceptHearsWrong)

/-- 'syndiclaw15.AcceptRises': WHATEVER THE INPUT: true; the input reads as it did. -/
def acceptRisesSpec : ChangeSpec := { name := "acceptRises", fn := fun _ => fun
  | [d1, d2, d3] => { results := [.lit (.bool true)], args := [d1, d2, d3] }
  | _ => none }
def acceptRisesRow : OpenClaim := { program := "ytfmhhincdemhdaagreat", sum := "0032cca9ba4c86a2a995881c4db6ce1cbc77b87733c02cd124f9e98a4acc5649", func := "syndic/syndiclaw15.AcceptRises", spec := "acceptRises", inPlace := ["internal/bytealg.IndexByteString", "internal/abi.NoEscape", "internal/bytealg.MakeNoZero"], unfollowed := true, recurses := true, plainKeys := false, apart := false }
def AcceptRisesSaid : Prop := acceptRisesRow.holds Tryz.pinned (OpenSpec.ofChange acceptRisesSpec)

/-- ITS FALSE NEIGHBOUR: 'it returns false'. Refute it at one input. -/
def acceptRisesWrong : ChangeSpec := { name := "acceptRises", fn := fun _ => fun
  | [d1, d2, d3] => { results := [.lit (.bool false)], args := [d1, d2, d3] }
  | _ => none }
def AcceptRisesWrongFalsely : Prop := acceptRisesRow.holds Tryz.pinned (OpenSpec.ofChange acceptRisesWrong)

/-- 'syndiclaw15.AcceptOthers': WHATEVER THE INPUT: true; the input reads as it did. -/
def acceptOthersSpec : ChangeSpec := { name := "acceptOthers", fn := fun _ => fun
  | [d1, d2, d3, d4, d5] => { results := [.lit (.bool true)], args := [d1, d2, d3, d4, d5] }
  | _ => none }
def acceptOthersRow : OpenClaim := { program := "ytfmhhincdemhdaagreat", sum := "0032cca9ba4c86a2a995881c4db6ce1cbc77b87733c02cd124f9e98a4acc5649", func := "syndic/syndiclaw15.AcceptOthers", spec := "acceptOthers", inPlace := ["internal/bytealg.IndexByteString", "internal/abi.NoEscape", "internal/bytealg.MakeNoZero"], unfollowed := true, recurses := true, plainKeys := false, apart := false }
def AcceptOthersSaid : Prop := acceptOthersRow.holds Tryz.pinned (OpenSpec.ofChange acceptOthersSpec)

/-- ITS FALSE NEIGHBOUR: 'it returns false'. Refute it at one input. -/
def acceptOthersWrong : ChangeSpec := { name := "acceptOthers", fn := fun _ => fun
  | [d1, d2, d3, d4, d5] => { results := [.lit (.bool false)], args := [d1, d2, d3, d4, d5] }
  | _ => none }
def AcceptOthersWrongFalsely : Prop := acceptOthersRow.holds Tryz.pinned (OpenSpec.ofChange acceptOthersWrong)

/-- 'syndiclaw15.AcceptSet': WHATEVER THE INPUT: true; the input reads as it did. -/
def acceptSetSpec : ChangeSpec := { name := "acceptSet", fn := fun _ => fun
  | [d1, d2, d3, d4] => { results := [.lit (.bool true)], args := [d1, d2, d3, d4] }
  | _ => none }
def acceptSetRow : OpenClaim := { program := "ytfmhhincdemhdaagreat", sum := "0032cca9ba4c86a2a995881c4db6ce1cbc77b87733c02cd124f9e98a4acc5649", func := "syndic/syndiclaw15.AcceptSet", spec := "acceptSet", inPlace := ["internal/bytealg.IndexByteString", "internal/abi.NoEscape", "internal/bytealg.MakeNoZero"], unfollowed := true, recurses := true, plainKeys := false, apart := false }
def AcceptSetSaid : Prop := acceptSetRow.holds Tryz.pinned (OpenSpec.ofChange acceptSetSpec)

/-- ITS FALSE NEIGHBOUR: 'it returns false'. Refute it at one input. -/
def acceptSetWrong : ChangeSpec := { name := "acceptSet", fn := fun _ => fun
  | [d1, d2, d3, d4] => { results := [.lit (.bool false)], args := [d1, d2, d3, d4] }
  | _ => none }
def AcceptSetWrongFalsely : Prop := acceptSetRow.holds Tryz.pinned (OpenSpec.ofChange acceptSetWrong)

/-- 'syndiclaw15.AcceptAgain': WHATEVER THE INPUT: true; the input reads as it did. -/
def acceptAgainSpec : ChangeSpec := { name := "acceptAgain", fn := fun _ => fun
  | [d1, d2, d3, d4] => { results := [.lit (.bool true)], args := [d1, d2, d3, d4] }
  | _ => none }
def acceptAgainRow : OpenClaim := { program := "ytfmhhincdemhdaagreat", sum := "0032cca9ba4c86a2a995881c4db6ce1cbc77b87733c02cd124f9e98a4acc5649", func := "syndic/syndiclaw15.AcceptAgain", spec := "acceptAgain", inPlace := ["internal/bytealg.IndexByteString", "internal/abi.NoEscape", "internal/bytealg.MakeNoZero"], unfollowed := true, recurses := true, plainKeys := false, apart := false }
def AcceptAgainSaid : Prop := acceptAgainRow.holds Tryz.pinned (OpenSpec.ofChange acceptAgainSpec)

/-- ITS FALSE NEIGHBOUR: 'it returns false'. Refute it at one input. -/
def acceptAgainWrong : ChangeSpec := { name := "acceptAgain", fn := fun _ => fun
  | [d1, d2, d3, d4] => { results := [.lit (.bool false)], args := [d1, d2, d3, d4] }
  | _ => none }
def AcceptAgainWrongFalsely : Prop := acceptAgainRow.holds Tryz.pinned (OpenSpec.ofChange acceptAgainWrong)

/-- 'syndiclaw15.AcceptPromise': WHATEVER THE INPUT: true; the input reads as it did. -/
def acceptPromiseSpec : ChangeSpec := { name := "acceptPromise", fn := fun _ => fun
  | [d1, d2, d3, d4, d5] => { results := [.lit (.bool true)], args := [d1, d2, d3, d4, d5] }
  | _ => none }
def acceptPromiseRow : OpenClaim := { program := "ytfmhhincdemhdaagreat", sum := "0032cca9ba4c86a2a995881c4db6ce1cbc77b87733c02cd124f9e98a4acc5649", func := "syndic/syndiclaw15.AcceptPromise", spec := "acceptPromise", inPlace := ["internal/bytealg.IndexByteString", "internal/abi.NoEscape", "internal/bytealg.MakeNoZero"], unfollowed := true, recurses := true, plainKeys := false, apart := false }
def AcceptPromiseSaid : Prop := acceptPromiseRow.holds Tryz.pinned (OpenSpec.ofChange acceptPromiseSpec)

/-- ITS FALSE NEIGHBOUR: 'it returns false'. Refute it at one input. -/
def acceptPromiseWrong : ChangeSpec := { name := "acceptPromise", fn := fun _ => fun
  | [d1, d2, d3, d4, d5] => { results := [.lit (.bool false)], args := [d1, d2, d3, d4, d5] }
  | _ => none }
def AcceptPromiseWrongFalsely : Prop := acceptPromiseRow.holds Tryz.pinned (OpenSpec.ofChange acceptPromiseWrong)

/-- 'syndiclaw15.AcceptBallots': WHATEVER THE INPUT: true; the input reads as it did. -/
def acceptBallotsSpec : ChangeSpec := { name := "acceptBallots", fn := fun _ => fun
  | [d1, d2, d3, d4, d5] => { results := [.lit (.bool true)], args := [d1, d2, d3, d4, d5] }
  | _ => none }
def acceptBallotsRow : OpenClaim := { program := "ytfmhhincdemhdaagreat", sum := "0032cca9ba4c86a2a995881c4db6ce1cbc77b87733c02cd124f9e98a4acc5649", func := "syndic/syndiclaw15.AcceptBallots", spec := "acceptBallots", inPlace := ["internal/bytealg.IndexByteString", "internal/abi.NoEscape", "internal/bytealg.MakeNoZero"], unfollowed := true, recurses := true, plainKeys := false, apart := false }
def AcceptBallotsSaid : Prop := acceptBallotsRow.holds Tryz.pinned (OpenSpec.ofChange acceptBallotsSpec)

/-- ITS FALSE NEIGHBOUR: 'it returns false'. Refute it at one input. -/
def acceptBallotsWrong : ChangeSpec := { name := "acceptBallots", fn := fun _ => fun
  | [d1, d2, d3, d4, d5] => { results := [.lit (.bool false)], args := [d1, d2, d3, d4, d5] }
  | _ => none }
def AcceptBallotsWrongFalsely : Prop := acceptBallotsRow.holds Tryz.pinned (OpenSpec.ofChange acceptBallotsWrong)

/-- 'syndiclaw15.AcceptSees': WHATEVER THE INPUT: true; the input reads as it did. -/
def acceptSeesSpec : ChangeSpec := { name := "acceptSees", fn := fun _ => fun
  | [d1, d2, d3] => { results := [.lit (.bool true)], args := [d1, d2, d3] }
  | _ => none }
def acceptSeesRow : OpenClaim := { program := "ytfmhhincdemhdaagreat", sum := "0032cca9ba4c86a2a995881c4db6ce1cbc77b87733c02cd124f9e98a4acc5649", func := "syndic/syndiclaw15.AcceptSees", spec := "acceptSees", inPlace := ["internal/bytealg.IndexByteString", "internal/abi.NoEscape", "internal/bytealg.MakeNoZero"], unfollowed := true, recurses := true, plainKeys := false, apart := false }
def AcceptSeesSaid : Prop := acceptSeesRow.holds Tryz.pinned (OpenSpec.ofChange acceptSeesSpec)

/-- ITS FALSE NEIGHBOUR: 'it returns false'. Refute it at one input. -/
def acceptSeesWrong : ChangeSpec := { name := "acceptSees", fn := fun _ => fun
  | [d1, d2, d3] => { results := [.lit (.bool false)], args := [d1, d2, d3] }
  | _ => none }
def AcceptSeesWrongFalsely : Prop := acceptSeesRow.holds Tryz.pinned (OpenSpec.ofChange acceptSeesWrong)

/- THE SECOND FORM. 'bulk': how many values and letters a reading holds, each counted each time it is reached (what is shared counts as often as it is met; a slice's spare places count too). A statement '..UptoSaid' is the law's where the arguments, and the package variables that the reading takes, are together of bulk at most 1048576: NARROWER than '..Said'. Prove '..Said' where nothing that the law and all that it calls make is longer than what came in: it says more and counts as full. Else prove '..UptoSaid'. A law counts once. -/
mutual
def uptoBulk {H : Type} : DataW H → Nat
  | .lit (.string bytes) => bytes.length + 1
  | .lit _ => 1
  | .nil => 1
  | .ptr d => uptoBulk d + 1
  | .slice elems spare => uptoBulkAll elems + uptoBulkAll spare + 1
  | .agg parts => uptoBulkAll parts + 1
  | .iface _ d => uptoBulk d + 1
  | .map entries => uptoBulkEntries entries + 1
  | .held _ => 1
def uptoBulkAll {H : Type} : List (DataW H) → Nat
  | [] => 0
  | d :: r => uptoBulk d + uptoBulkAll r
def uptoBulkEntries {H : Type} : List (Lit × DataW H) → Nat
  | [] => 0
  | x :: r => uptoBulkEntry x + uptoBulkEntries r
def uptoBulkEntry {H : Type} : Lit × DataW H → Nat
  | (.string bytes, d) => bytes.length + uptoBulk d + 1
  | (_, d) => uptoBulk d + 1
 end
def uptoSmall : (H : Type) → List (DataW H) → Bool := fun _ ds => decide (uptoBulkAll ds ≤ 1048576)
def OpenSpec.upto (s : _root_.Go.ChangeSpec) : _root_.Go.OpenSpec := { _root_.Go.OpenSpec.ofChange s with cond := some uptoSmall }

/-- 'syndiclaw15.AcceptHears', WHERE WHAT IT READS IS OF BULK AT MOST 1048576: true; the input reads as it did. -/
def acceptHearsUptoRow : OpenClaim := { program := "ytfmhhincdemhdaagreat", sum := "0032cca9ba4c86a2a995881c4db6ce1cbc77b87733c02cd124f9e98a4acc5649", func := "syndic/syndiclaw15.AcceptHears", spec := "acceptHears", inPlace := ["internal/bytealg.IndexByteString", "internal/abi.NoEscape", "internal/bytealg.MakeNoZero"], unfollowed := true, recurses := true, plainKeys := false, apart := false, narrowed := true }
def AcceptHearsUptoSaid : Prop := acceptHearsUptoRow.holds Tryz.pinned (OpenSpec.upto acceptHearsSpec)

/-- 'syndiclaw15.AcceptRises', WHERE WHAT IT READS IS OF BULK AT MOST 1048576: true; the input reads as it did. -/
def acceptRisesUptoRow : OpenClaim := { program := "ytfmhhincdemhdaagreat", sum := "0032cca9ba4c86a2a995881c4db6ce1cbc77b87733c02cd124f9e98a4acc5649", func := "syndic/syndiclaw15.AcceptRises", spec := "acceptRises", inPlace := ["internal/bytealg.IndexByteString", "internal/abi.NoEscape", "internal/bytealg.MakeNoZero"], unfollowed := true, recurses := true, plainKeys := false, apart := false, narrowed := true }
def AcceptRisesUptoSaid : Prop := acceptRisesUptoRow.holds Tryz.pinned (OpenSpec.upto acceptRisesSpec)

/-- 'syndiclaw15.AcceptOthers', WHERE WHAT IT READS IS OF BULK AT MOST 1048576: true; the input reads as it did. -/
def acceptOthersUptoRow : OpenClaim := { program := "ytfmhhincdemhdaagreat", sum := "0032cca9ba4c86a2a995881c4db6ce1cbc77b87733c02cd124f9e98a4acc5649", func := "syndic/syndiclaw15.AcceptOthers", spec := "acceptOthers", inPlace := ["internal/bytealg.IndexByteString", "internal/abi.NoEscape", "internal/bytealg.MakeNoZero"], unfollowed := true, recurses := true, plainKeys := false, apart := false, narrowed := true }
def AcceptOthersUptoSaid : Prop := acceptOthersUptoRow.holds Tryz.pinned (OpenSpec.upto acceptOthersSpec)

/-- 'syndiclaw15.AcceptSet', WHERE WHAT IT READS IS OF BULK AT MOST 1048576: true; the input reads as it did. -/
def acceptSetUptoRow : OpenClaim := { program := "ytfmhhincdemhdaagreat", sum := "0032cca9ba4c86a2a995881c4db6ce1cbc77b87733c02cd124f9e98a4acc5649", func := "syndic/syndiclaw15.AcceptSet", spec := "acceptSet", inPlace := ["internal/bytealg.IndexByteString", "internal/abi.NoEscape", "internal/bytealg.MakeNoZero"], unfollowed := true, recurses := true, plainKeys := false, apart := false, narrowed := true }
def AcceptSetUptoSaid : Prop := acceptSetUptoRow.holds Tryz.pinned (OpenSpec.upto acceptSetSpec)

/-- 'syndiclaw15.AcceptAgain', WHERE WHAT IT READS IS OF BULK AT MOST 1048576: true; the input reads as it did. -/
def acceptAgainUptoRow : OpenClaim := { program := "ytfmhhincdemhdaagreat", sum := "0032cca9ba4c86a2a995881c4db6ce1cbc77b87733c02cd124f9e98a4acc5649", func := "syndic/syndiclaw15.AcceptAgain", spec := "acceptAgain", inPlace := ["internal/bytealg.IndexByteString", "internal/abi.NoEscape", "internal/bytealg.MakeNoZero"], unfollowed := true, recurses := true, plainKeys := false, apart := false, narrowed := true }
def AcceptAgainUptoSaid : Prop := acceptAgainUptoRow.holds Tryz.pinned (OpenSpec.upto acceptAgainSpec)

/-- 'syndiclaw15.AcceptPromise', WHERE WHAT IT READS IS OF BULK AT MOST 1048576: true; the input reads as it did. -/
def acceptPromiseUptoRow : OpenClaim := { program := "ytfmhhincdemhdaagreat", sum := "0032cca9ba4c86a2a995881c4db6ce1cbc77b87733c02cd124f9e98a4acc5649", func := "syndic/syndiclaw15.AcceptPromise", spec := "acceptPromise", inPlace := ["internal/bytealg.IndexByteString", "internal/abi.NoEscape", "internal/bytealg.MakeNoZero"], unfollowed := true, recurses := true, plainKeys := false, apart := false, narrowed := true }
def AcceptPromiseUptoSaid : Prop := acceptPromiseUptoRow.holds Tryz.pinned (OpenSpec.upto acceptPromiseSpec)

/-- 'syndiclaw15.AcceptBallots', WHERE WHAT IT READS IS OF BULK AT MOST 1048576: true; the input reads as it did. -/
def acceptBallotsUptoRow : OpenClaim := { program := "ytfmhhincdemhdaagreat", sum := "0032cca9ba4c86a2a995881c4db6ce1cbc77b87733c02cd124f9e98a4acc5649", func := "syndic/syndiclaw15.AcceptBallots", spec := "acceptBallots", inPlace := ["internal/bytealg.IndexByteString", "internal/abi.NoEscape", "internal/bytealg.MakeNoZero"], unfollowed := true, recurses := true, plainKeys := false, apart := false, narrowed := true }
def AcceptBallotsUptoSaid : Prop := acceptBallotsUptoRow.holds Tryz.pinned (OpenSpec.upto acceptBallotsSpec)

/-- 'syndiclaw15.AcceptSees', WHERE WHAT IT READS IS OF BULK AT MOST 1048576: true; the input reads as it did. -/
def acceptSeesUptoRow : OpenClaim := { program := "ytfmhhincdemhdaagreat", sum := "0032cca9ba4c86a2a995881c4db6ce1cbc77b87733c02cd124f9e98a4acc5649", func := "syndic/syndiclaw15.AcceptSees", spec := "acceptSees", inPlace := ["internal/bytealg.IndexByteString", "internal/abi.NoEscape", "internal/bytealg.MakeNoZero"], unfollowed := true, recurses := true, plainKeys := false, apart := false, narrowed := true }
def AcceptSeesUptoSaid : Prop := acceptSeesUptoRow.holds Tryz.pinned (OpenSpec.upto acceptSeesSpec)

end Rows
end Go.Proofs.YtfmhhincdemhdaaGreat
