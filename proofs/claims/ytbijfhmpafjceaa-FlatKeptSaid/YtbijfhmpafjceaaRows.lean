/-
  No cell of these rows narrows 'for every input' (looked for: loops, veiled, ifaces, maps, wideKeys, modest, calm, conditions, laid).
  DERIVED. THE GIVEN ROWS OF THIS SEAT. 3 by the template 'for every input the law returns true; each argument reads behind the call as it read before'; 0 by the template 'total and deterministic' (their statements: YtbijfhmpafjceaaTotals.lean).
  GIVEN WITH THE SEED: the statements are not yours to turn. If you find one false, say at which input.
  Laid BY PROGRAM, IN A SANDBOX (cutbox-rows.mjs): the forced cells as the released guide's own fill.sh prints them over the translation 3a1f51a80f46c077… (all of the seat's roots in one cut). By AI agents, Wed Nov 11 2026. No macro, syntax, notation, axiom, sorry.
-/
import Derived.Test.YtbijfhmpafjceaaChecked
import GoSem.Claim
import GoSem.ClaimJoined
import GoSem.ClaimMapViews
import Derived.JoinedTies
import Derived.KernelRfl
namespace Go.Proofs.Ytbijfhmpafjceaa
/- THE CELL 'sum', in the pinned program and in every row, IS THE sha256 OF THE DUMP (.gsa) THAT YtbijfhmpafjceaaProg.lean LOADS. Nothing in Lean hashes anything: it is a label: what it is worth is what the hold of that sum in a sandbox is worth. -/
noncomputable def Try.pinned : Pinned := { name := "ytbijfhmpafjceaa", sum := "3a1f51a80f46c077a7148e5d0e84eac21accc2f298d1eb9a0e034b5fd13252bb", checked := Try.checked }
namespace Rows
def none {H : Type} : Left H := { results := [], args := [] }

/-- 'cobblelaw07.FlatKept': WHATEVER THE INPUT: true; the input reads as it did. -/
def flatKeptSpec : ChangeSpec := { name := "flatKept", fn := fun _ => fun
  | [d1, d2] => { results := [.lit (.bool true)], args := [d1, d2] }
  | _ => none }
def flatKeptRow : OpenClaim := { program := "ytbijfhmpafjceaa", sum := "3a1f51a80f46c077a7148e5d0e84eac21accc2f298d1eb9a0e034b5fd13252bb", func := "cobble/cobblelaw07.FlatKept", spec := "flatKept", unfollowed := true, recurses := true, apart := false }
def FlatKeptSaid : Prop := flatKeptRow.holds Try.pinned (OpenSpec.ofChange flatKeptSpec)

/-- ITS FALSE NEIGHBOUR: 'it returns false'. Refute it at one input. -/
def flatKeptWrong : ChangeSpec := { name := "flatKept", fn := fun _ => fun
  | [d1, d2] => { results := [.lit (.bool false)], args := [d1, d2] }
  | _ => none }
def FlatKeptWrongFalsely : Prop := flatKeptRow.holds Try.pinned (OpenSpec.ofChange flatKeptWrong)

/-- 'cobblelaw06.RollProofs': WHATEVER THE INPUT: true; the input reads as it did. -/
def rollProofsSpec : ChangeSpec := { name := "rollProofs", fn := fun _ => fun
  | [d1, d2, d3] => { results := [.lit (.bool true)], args := [d1, d2, d3] }
  | _ => none }
def rollProofsRow : OpenClaim := { program := "ytbijfhmpafjceaa", sum := "3a1f51a80f46c077a7148e5d0e84eac21accc2f298d1eb9a0e034b5fd13252bb", func := "cobble/cobblelaw06.RollProofs", spec := "rollProofs", unfollowed := true, recurses := true, apart := false }
def RollProofsSaid : Prop := rollProofsRow.holds Try.pinned (OpenSpec.ofChange rollProofsSpec)

/-- ITS FALSE NEIGHBOUR: 'it returns false'. Refute it at one input. -/
def rollProofsWrong : ChangeSpec := { name := "rollProofs", fn := fun _ => fun
  | [d1, d2, d3] => { results := [.lit (.bool false)], args := [d1, d2, d3] }
  | _ => none }
def RollProofsWrongFalsely : Prop := rollProofsRow.holds Try.pinned (OpenSpec.ofChange rollProofsWrong)

/-- 'cobblelaw06.RollFits': WHATEVER THE INPUT: true; the input reads as it did. -/
def rollFitsSpec : ChangeSpec := { name := "rollFits", fn := fun _ => fun
  | [d1, d2, d3] => { results := [.lit (.bool true)], args := [d1, d2, d3] }
  | _ => none }
def rollFitsRow : OpenClaim := { program := "ytbijfhmpafjceaa", sum := "3a1f51a80f46c077a7148e5d0e84eac21accc2f298d1eb9a0e034b5fd13252bb", func := "cobble/cobblelaw06.RollFits", spec := "rollFits", unfollowed := true, recurses := true, apart := false }
def RollFitsSaid : Prop := rollFitsRow.holds Try.pinned (OpenSpec.ofChange rollFitsSpec)

/-- ITS FALSE NEIGHBOUR: 'it returns false'. Refute it at one input. -/
def rollFitsWrong : ChangeSpec := { name := "rollFits", fn := fun _ => fun
  | [d1, d2, d3] => { results := [.lit (.bool false)], args := [d1, d2, d3] }
  | _ => none }
def RollFitsWrongFalsely : Prop := rollFitsRow.holds Try.pinned (OpenSpec.ofChange rollFitsWrong)

/- THE SECOND FORM. 'bulk': how many values and letters a reading holds, each counted each time it is reached (what is shared counts as often as it is met; a slice's spare places count too). A statement '..UptoSaid' is the law's where the arguments, and the package variables that the reading takes, are together of bulk at most 1048576: NARROWER than '..Said'. Prove '..Said' where nothing that the law and all that it calls make is longer than what came in: it says more and counts as full. Else prove '..UptoSaid'. A law counts once. -/
mutual
def uptoBulk {H : Type} : DataW H → Nat
  | .lit (.string bytes) => bytes.length + 1
  | .lit _ => 1
  | .nil => 1
  | .ptr d => uptoBulk d + 1
  | .slice elems spare => uptoBulkAll elems + uptoBulkAll spare + 1
  | .agg parts => uptoBulkAll parts + 1
  | .iface _ d => uptoBulk d + 1
  | .map entries => uptoBulkEntries entries + 1
  | .held _ => 1
def uptoBulkAll {H : Type} : List (DataW H) → Nat
  | [] => 0
  | d :: r => uptoBulk d + uptoBulkAll r
def uptoBulkEntries {H : Type} : List (Lit × DataW H) → Nat
  | [] => 0
  | x :: r => uptoBulkEntry x + uptoBulkEntries r
def uptoBulkEntry {H : Type} : Lit × DataW H → Nat
  | (.string bytes, d) => bytes.length + uptoBulk d + 1
  | (_, d) => uptoBulk d + 1
 end
def uptoSmall : (H : Type) → List (DataW H) → Bool := fun _ ds => decide (uptoBulkAll ds ≤ 1048576)
def OpenSpec.upto (s : _root_.Go.ChangeSpec) : _root_.Go.OpenSpec := { _root_.Go.OpenSpec.ofChange s with cond := some uptoSmall }

/-- 'cobblelaw07.FlatKept', WHERE WHAT IT READS IS OF BULK AT MOST 1048576: true; the input reads as it did. -/
def flatKeptUptoRow : OpenClaim := { program := "ytbijfhmpafjceaa", sum := "3a1f51a80f46c077a7148e5d0e84eac21accc2f298d1eb9a0e034b5fd13252bb", func := "cobble/cobblelaw07.FlatKept", spec := "flatKept", unfollowed := true, recurses := true, apart := false, narrowed := true }
def FlatKeptUptoSaid : Prop := flatKeptUptoRow.holds Try.pinned (OpenSpec.upto flatKeptSpec)

/-- 'cobblelaw06.RollProofs', WHERE WHAT IT READS IS OF BULK AT MOST 1048576: true; the input reads as it did. -/
def rollProofsUptoRow : OpenClaim := { program := "ytbijfhmpafjceaa", sum := "3a1f51a80f46c077a7148e5d0e84eac21accc2f298d1eb9a0e034b5fd13252bb", func := "cobble/cobblelaw06.RollProofs", spec := "rollProofs", unfollowed := true, recurses := true, apart := false, narrowed := true }
def RollProofsUptoSaid : Prop := rollProofsUptoRow.holds Try.pinned (OpenSpec.upto rollProofsSpec)

/-- 'cobblelaw06.RollFits', WHERE WHAT IT READS IS OF BULK AT MOST 1048576: true; the input reads as it did. -/
def rollFitsUptoRow : OpenClaim := { program := "ytbijfhmpafjceaa", sum := "3a1f51a80f46c077a7148e5d0e84eac21accc2f298d1eb9a0e034b5fd13252bb", func := "cobble/cobblelaw06.RollFits", spec := "rollFits", unfollowed := true, recurses := true, apart := false, narrowed := true }
def RollFitsUptoSaid : Prop := rollFitsUptoRow.holds Try.pinned (OpenSpec.upto rollFitsSpec)

end Rows
end Go.Proofs.Ytbijfhmpafjceaa
