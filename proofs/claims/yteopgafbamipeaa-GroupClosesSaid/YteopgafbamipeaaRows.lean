/-
  No cell of these rows narrows 'for every input' (looked for: loops, veiled, ifaces, maps, wideKeys, modest, calm, conditions, laid).
  DERIVED. THE GIVEN ROWS OF THIS SEAT. 6 by the template 'for every input the law returns true; each argument reads behind the call as it read before'; 0 by the template 'total and deterministic' (their statements: YteopgafbamipeaaTotals.lean).
  GIVEN WITH THE SEED: the statements are not yours to turn. If you find one false, say at which input.
  Laid BY PROGRAM, IN A SANDBOX (cutbox-rows.mjs): the forced cells as the released guide's own fill.sh prints them over the translation 5ca1b3853df3ed26… (all of the seat's roots in one cut). By AI agents, Wed Nov 11 2026. No macro, syntax, notation, axiom, sorry.
-/
import Derived.Test.YteopgafbamipeaaChecked
import GoSem.Claim
import GoSem.ClaimJoined
import GoSem.ClaimMapViews
import Derived.JoinedTies
import Derived.KernelRfl
namespace Go.Proofs.Yteopgafbamipeaa
/- THE CELL 'sum', in the pinned program and in every row, IS THE sha256 OF THE DUMP (.gsa) THAT YteopgafbamipeaaProg.lean LOADS. Nothing in Lean hashes anything: it is a label: what it is worth is what the hold of that sum in a sandbox is worth. -/
noncomputable def Try.pinned : Pinned := { name := "yteopgafbamipeaa", sum := "5ca1b3853df3ed2612be6521edcd38a734b9e8749a86b33e64c3bfb162f0c851", checked := Try.checked }
namespace Rows
def none {H : Type} : Left H := { results := [], args := [] }

/-- 'secateurlaw18.GroupTwo': WHATEVER THE INPUT: true; the input reads as it did. -/
def groupTwoSpec : ChangeSpec := { name := "groupTwo", fn := fun _ => fun
  | [d1, d2, d3] => { results := [.lit (.bool true)], args := [d1, d2, d3] }
  | _ => none }
def groupTwoRow : OpenClaim := { program := "yteopgafbamipeaa", sum := "5ca1b3853df3ed2612be6521edcd38a734b9e8749a86b33e64c3bfb162f0c851", func := "secateur/secateurlaw18.GroupTwo", spec := "groupTwo", unfollowed := true, recurses := true, plainKeys := false, apart := false }
def GroupTwoSaid : Prop := groupTwoRow.holds Try.pinned (OpenSpec.ofChange groupTwoSpec)

/-- ITS FALSE NEIGHBOUR: 'it returns false'. Refute it at one input. -/
def groupTwoWrong : ChangeSpec := { name := "groupTwo", fn := fun _ => fun
  | [d1, d2, d3] => { results := [.lit (.bool false)], args := [d1, d2, d3] }
  | _ => none }
def GroupTwoWrongFalsely : Prop := groupTwoRow.holds Try.pinned (OpenSpec.ofChange groupTwoWrong)

/-- 'secateurlaw18.GroupCloses': WHATEVER THE INPUT: true; the input reads as it did. -/
def groupClosesSpec : ChangeSpec := { name := "groupCloses", fn := fun _ => fun
  | [d1, d2] => { results := [.lit (.bool true)], args := [d1, d2] }
  | _ => none }
def groupClosesRow : OpenClaim := { program := "yteopgafbamipeaa", sum := "5ca1b3853df3ed2612be6521edcd38a734b9e8749a86b33e64c3bfb162f0c851", func := "secateur/secateurlaw18.GroupCloses", spec := "groupCloses", unfollowed := true, recurses := true, plainKeys := false, apart := false }
def GroupClosesSaid : Prop := groupClosesRow.holds Try.pinned (OpenSpec.ofChange groupClosesSpec)

/-- ITS FALSE NEIGHBOUR: 'it returns false'. Refute it at one input. -/
def groupClosesWrong : ChangeSpec := { name := "groupCloses", fn := fun _ => fun
  | [d1, d2] => { results := [.lit (.bool false)], args := [d1, d2] }
  | _ => none }
def GroupClosesWrongFalsely : Prop := groupClosesRow.holds Try.pinned (OpenSpec.ofChange groupClosesWrong)

/-- 'secateurlaw18.GroupSpreads': WHATEVER THE INPUT: true; the input reads as it did. -/
def groupSpreadsSpec : ChangeSpec := { name := "groupSpreads", fn := fun _ => fun
  | [d1, d2] => { results := [.lit (.bool true)], args := [d1, d2] }
  | _ => none }
def groupSpreadsRow : OpenClaim := { program := "yteopgafbamipeaa", sum := "5ca1b3853df3ed2612be6521edcd38a734b9e8749a86b33e64c3bfb162f0c851", func := "secateur/secateurlaw18.GroupSpreads", spec := "groupSpreads", unfollowed := true, recurses := true, plainKeys := false, apart := false }
def GroupSpreadsSaid : Prop := groupSpreadsRow.holds Try.pinned (OpenSpec.ofChange groupSpreadsSpec)

/-- ITS FALSE NEIGHBOUR: 'it returns false'. Refute it at one input. -/
def groupSpreadsWrong : ChangeSpec := { name := "groupSpreads", fn := fun _ => fun
  | [d1, d2] => { results := [.lit (.bool false)], args := [d1, d2] }
  | _ => none }
def GroupSpreadsWrongFalsely : Prop := groupSpreadsRow.holds Try.pinned (OpenSpec.ofChange groupSpreadsWrong)

/-- 'secateurlaw18.GroupThree': WHATEVER THE INPUT: true; the input reads as it did. -/
def groupThreeSpec : ChangeSpec := { name := "groupThree", fn := fun _ => fun
  | [d1, d2, d3] => { results := [.lit (.bool true)], args := [d1, d2, d3] }
  | _ => none }
def groupThreeRow : OpenClaim := { program := "yteopgafbamipeaa", sum := "5ca1b3853df3ed2612be6521edcd38a734b9e8749a86b33e64c3bfb162f0c851", func := "secateur/secateurlaw18.GroupThree", spec := "groupThree", unfollowed := true, recurses := true, plainKeys := false, apart := false }
def GroupThreeSaid : Prop := groupThreeRow.holds Try.pinned (OpenSpec.ofChange groupThreeSpec)

/-- ITS FALSE NEIGHBOUR: 'it returns false'. Refute it at one input. -/
def groupThreeWrong : ChangeSpec := { name := "groupThree", fn := fun _ => fun
  | [d1, d2, d3] => { results := [.lit (.bool false)], args := [d1, d2, d3] }
  | _ => none }
def GroupThreeWrongFalsely : Prop := groupThreeRow.holds Try.pinned (OpenSpec.ofChange groupThreeWrong)

/-- 'secateurlaw18.GroupPlaces': WHATEVER THE INPUT: true; the input reads as it did. -/
def groupPlacesSpec : ChangeSpec := { name := "groupPlaces", fn := fun _ => fun
  | [d1, d2, d3] => { results := [.lit (.bool true)], args := [d1, d2, d3] }
  | _ => none }
def groupPlacesRow : OpenClaim := { program := "yteopgafbamipeaa", sum := "5ca1b3853df3ed2612be6521edcd38a734b9e8749a86b33e64c3bfb162f0c851", func := "secateur/secateurlaw18.GroupPlaces", spec := "groupPlaces", unfollowed := true, recurses := true, plainKeys := false, apart := false }
def GroupPlacesSaid : Prop := groupPlacesRow.holds Try.pinned (OpenSpec.ofChange groupPlacesSpec)

/-- ITS FALSE NEIGHBOUR: 'it returns false'. Refute it at one input. -/
def groupPlacesWrong : ChangeSpec := { name := "groupPlaces", fn := fun _ => fun
  | [d1, d2, d3] => { results := [.lit (.bool false)], args := [d1, d2, d3] }
  | _ => none }
def GroupPlacesWrongFalsely : Prop := groupPlacesRow.holds Try.pinned (OpenSpec.ofChange groupPlacesWrong)

/-- 'secateurlaw18.GroupMore': WHATEVER THE INPUT: true; the input reads as it did. -/
def groupMoreSpec : ChangeSpec := { name := "groupMore", fn := fun _ => fun
  | [d1, d2, d3] => { results := [.lit (.bool true)], args := [d1, d2, d3] }
  | _ => none }
def groupMoreRow : OpenClaim := { program := "yteopgafbamipeaa", sum := "5ca1b3853df3ed2612be6521edcd38a734b9e8749a86b33e64c3bfb162f0c851", func := "secateur/secateurlaw18.GroupMore", spec := "groupMore", unfollowed := true, recurses := true, plainKeys := false, apart := false }
def GroupMoreSaid : Prop := groupMoreRow.holds Try.pinned (OpenSpec.ofChange groupMoreSpec)

/-- ITS FALSE NEIGHBOUR: 'it returns false'. Refute it at one input. -/
def groupMoreWrong : ChangeSpec := { name := "groupMore", fn := fun _ => fun
  | [d1, d2, d3] => { results := [.lit (.bool false)], args := [d1, d2, d3] }
  | _ => none }
def GroupMoreWrongFalsely : Prop := groupMoreRow.holds Try.pinned (OpenSpec.ofChange groupMoreWrong)

/- THE SECOND FORM. 'bulk': how many values and letters a reading holds, each counted each time it is reached (what is shared counts as often as it is met; a slice's spare places count too). A statement '..UptoSaid' is the law's where the arguments, and the package variables that the reading takes, are together of bulk at most 1048576: NARROWER than '..Said'. Prove '..Said' where nothing that the law and all that it calls make is longer than what came in: it says more and counts as full. Else prove '..UptoSaid'. A law counts once. -/
mutual
def uptoBulk {H : Type} : DataW H → Nat
  | .lit (.string bytes) => bytes.length + 1
  | .lit _ => 1
  | .nil => 1
  | .ptr d => uptoBulk d + 1
  | .slice elems spare => uptoBulkAll elems + uptoBulkAll spare + 1
  | .agg parts => uptoBulkAll parts + 1
  | .iface _ d => uptoBulk d + 1
  | .map entries => uptoBulkEntries entries + 1
  | .held _ => 1
def uptoBulkAll {H : Type} : List (DataW H) → Nat
  | [] => 0
  | d :: r => uptoBulk d + uptoBulkAll r
def uptoBulkEntries {H : Type} : List (Lit × DataW H) → Nat
  | [] => 0
  | x :: r => uptoBulkEntry x + uptoBulkEntries r
def uptoBulkEntry {H : Type} : Lit × DataW H → Nat
  | (.string bytes, d) => bytes.length + uptoBulk d + 1
  | (_, d) => uptoBulk d + 1
 end
def uptoSmall : (H : Type) → List (DataW H) → Bool := fun _ ds => decide (uptoBulkAll ds ≤ 1048576)
def OpenSpec.upto (s : _root_.Go.ChangeSpec) : _root_.Go.OpenSpec := { _root_.Go.OpenSpec.ofChange s with cond := some uptoSmall }

/-- 'secateurlaw18.GroupTwo', WHERE WHAT IT READS IS OF BULK AT MOST 1048576: true; the input reads as it did. -/
def groupTwoUptoRow : OpenClaim := { program := "yteopgafbamipeaa", sum := "5ca1b3853df3ed2612be6521edcd38a734b9e8749a86b33e64c3bfb162f0c851", func := "secateur/secateurlaw18.GroupTwo", spec := "groupTwo", unfollowed := true, recurses := true, plainKeys := false, apart := false, narrowed := true }
def GroupTwoUptoSaid : Prop := groupTwoUptoRow.holds Try.pinned (OpenSpec.upto groupTwoSpec)

/-- 'secateurlaw18.GroupCloses', WHERE WHAT IT READS IS OF BULK AT MOST 1048576: true; the input reads as it did. -/
def groupClosesUptoRow : OpenClaim := { program := "yteopgafbamipeaa", sum := "5ca1b3853df3ed2612be6521edcd38a734b9e8749a86b33e64c3bfb162f0c851", func := "secateur/secateurlaw18.GroupCloses", spec := "groupCloses", unfollowed := true, recurses := true, plainKeys := false, apart := false, narrowed := true }
def GroupClosesUptoSaid : Prop := groupClosesUptoRow.holds Try.pinned (OpenSpec.upto groupClosesSpec)

/-- 'secateurlaw18.GroupSpreads', WHERE WHAT IT READS IS OF BULK AT MOST 1048576: true; the input reads as it did. -/
def groupSpreadsUptoRow : OpenClaim := { program := "yteopgafbamipeaa", sum := "5ca1b3853df3ed2612be6521edcd38a734b9e8749a86b33e64c3bfb162f0c851", func := "secateur/secateurlaw18.GroupSpreads", spec := "groupSpreads", unfollowed := true, recurses := true, plainKeys := false, apart := false, narrowed := true }
def GroupSpreadsUptoSaid : Prop := groupSpreadsUptoRow.holds Try.pinned (OpenSpec.upto groupSpreadsSpec)

/-- 'secateurlaw18.GroupThree', WHERE WHAT IT READS IS OF BULK AT MOST 1048576: true; the input reads as it did. -/
def groupThreeUptoRow : OpenClaim := { program := "yteopgafbamipeaa", sum := "5ca1b3853df3ed2612be6521edcd38a734b9e8749a86b33e64c3bfb162f0c851", func := "secateur/secateurlaw18.GroupThree", spec := "groupThree", unfollowed := true, recurses := true, plainKeys := false, apart := false, narrowed := true }
def GroupThreeUptoSaid : Prop := groupThreeUptoRow.holds Try.pinned (OpenSpec.upto groupThreeSpec)

/-- 'secateurlaw18.GroupPlaces', WHERE WHAT IT READS IS OF BULK AT MOST 1048576: true; the input reads as it did. -/
def groupPlacesUptoRow : OpenClaim := { program := "yteopgafbamipeaa", sum := "5ca1b3853df3ed2612be6521edcd38a734b9e8749a86b33e64c3bfb162f0c851", func := "secateur/secateurlaw18.GroupPlaces", spec := "groupPlaces", unfollowed := true, recurses := true, plainKeys := false, apart := false, narrowed := true }
def GroupPlacesUptoSaid : Prop := groupPlacesUptoRow.holds Try.pinned (OpenSpec.upto groupPlacesSpec)

/-- 'secateurlaw18.GroupMore', WHERE WHAT IT READS IS OF BULK AT MOST 1048576: true; the input reads as it did. -/
def groupMoreUptoRow : OpenClaim := { program := "yteopgafbamipeaa", sum := "5ca1b3853df3ed2612be6521edcd38a734b9e8749a86b33e64c3bfb162f0c851", func := "secateur/secateurlaw18.GroupMore", spec := "groupMore", unfollowed := true, recurses := true, plainKeys := false, apart := false, narrowed := true }
def GroupMoreUptoSaid : Prop := groupMoreUptoRow.holds Try.pinned (OpenSpec.upto groupMoreSpec)

end Rows
end Go.Proofs.Yteopgafbamipeaa
