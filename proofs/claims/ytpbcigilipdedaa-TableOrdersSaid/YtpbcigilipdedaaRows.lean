/-
  No cell of these rows narrows 'for every input' (looked for: loops, veiled, ifaces, maps, wideKeys, modest, calm, conditions, laid).
  DERIVED. THE GIVEN ROWS OF THIS SEAT. 11 by the template 'for every input the law returns true; each argument reads behind the call as it read before'; 0 by the template 'total and deterministic' (their statements: YtpbcigilipdedaaTotals.lean).
  GIVEN WITH THE SEED: the statements are not yours to turn. If you find one false, say at which input.
  Laid BY PROGRAM, IN A SANDBOX (cutbox-rows.mjs): the forced cells as the released guide's own fill.sh prints them over the translation d5e4470e9d2c8fe6… (all of the seat's roots in one cut). By AI agents, Wed Nov 11 2026. No macro, syntax, notation, axiom, sorry.
-/
import Derived.Test.YtpbcigilipdedaaChecked
import GoSem.Claim
import GoSem.ClaimJoined
import GoSem.ClaimMapViews
import Derived.JoinedTies
import Derived.KernelRfl
namespace Go.Proofs.Ytpbcigilipdedaa
/- THE CELL 'sum', in the pinned program and in every row, IS THE sha256 OF THE DUMP (.gsa) THAT YtpbcigilipdedaaProg.lean LOADS. Nothing in Lean hashes anything: it is a label: what it is worth is what the hold of that sum in a sandbox is worth. -/
noncomputable def Try.pinned : Pinned := { name := "ytpbcigilipdedaa", sum := "d5e4470e9d2c8fe60140a71e4c0eb7844a7cc532e9e4af773871283a5f3f83d4", checked := Try.checked }
namespace Rows
def none {H : Type} : Left H := { results := [], args := [] }

/-- 'secateurlaw09.TablePrunes': WHATEVER THE INPUT: true; the input reads as it did. -/
def tablePrunesSpec : ChangeSpec := { name := "tablePrunes", fn := fun _ => fun
  | [d] => { results := [.lit (.bool true)], args := [d] }
  | _ => none }
def tablePrunesRow : OpenClaim := { program := "ytpbcigilipdedaa", sum := "d5e4470e9d2c8fe60140a71e4c0eb7844a7cc532e9e4af773871283a5f3f83d4", func := "secateur/secateurlaw09.TablePrunes", spec := "tablePrunes", unfollowed := true, recurses := true, apart := false }
def TablePrunesSaid : Prop := tablePrunesRow.holds Try.pinned (OpenSpec.ofChange tablePrunesSpec)

/-- ITS FALSE NEIGHBOUR: 'it returns false'. Refute it at one input. -/
def tablePrunesWrong : ChangeSpec := { name := "tablePrunes", fn := fun _ => fun
  | [d] => { results := [.lit (.bool false)], args := [d] }
  | _ => none }
def TablePrunesWrongFalsely : Prop := tablePrunesRow.holds Try.pinned (OpenSpec.ofChange tablePrunesWrong)

/-- 'secateurlaw09.TableSorts': WHATEVER THE INPUT: true; the input reads as it did. -/
def tableSortsSpec : ChangeSpec := { name := "tableSorts", fn := fun _ => fun
  | [d] => { results := [.lit (.bool true)], args := [d] }
  | _ => none }
def tableSortsRow : OpenClaim := { program := "ytpbcigilipdedaa", sum := "d5e4470e9d2c8fe60140a71e4c0eb7844a7cc532e9e4af773871283a5f3f83d4", func := "secateur/secateurlaw09.TableSorts", spec := "tableSorts", unfollowed := true, recurses := true, apart := false }
def TableSortsSaid : Prop := tableSortsRow.holds Try.pinned (OpenSpec.ofChange tableSortsSpec)

/-- ITS FALSE NEIGHBOUR: 'it returns false'. Refute it at one input. -/
def tableSortsWrong : ChangeSpec := { name := "tableSorts", fn := fun _ => fun
  | [d] => { results := [.lit (.bool false)], args := [d] }
  | _ => none }
def TableSortsWrongFalsely : Prop := tableSortsRow.holds Try.pinned (OpenSpec.ofChange tableSortsWrong)

/-- 'secateurlaw09.TableOrders': WHATEVER THE INPUT: true; the input reads as it did. -/
def tableOrdersSpec : ChangeSpec := { name := "tableOrders", fn := fun _ => fun
  | [d] => { results := [.lit (.bool true)], args := [d] }
  | _ => none }
def tableOrdersRow : OpenClaim := { program := "ytpbcigilipdedaa", sum := "d5e4470e9d2c8fe60140a71e4c0eb7844a7cc532e9e4af773871283a5f3f83d4", func := "secateur/secateurlaw09.TableOrders", spec := "tableOrders", unfollowed := true, recurses := true, apart := false }
def TableOrdersSaid : Prop := tableOrdersRow.holds Try.pinned (OpenSpec.ofChange tableOrdersSpec)

/-- ITS FALSE NEIGHBOUR: 'it returns false'. Refute it at one input. -/
def tableOrdersWrong : ChangeSpec := { name := "tableOrders", fn := fun _ => fun
  | [d] => { results := [.lit (.bool false)], args := [d] }
  | _ => none }
def TableOrdersWrongFalsely : Prop := tableOrdersRow.holds Try.pinned (OpenSpec.ofChange tableOrdersWrong)

/-- 'secateurlaw09.TableOnly': WHATEVER THE INPUT: true; the input reads as it did. -/
def tableOnlySpec : ChangeSpec := { name := "tableOnly", fn := fun _ => fun
  | [d] => { results := [.lit (.bool true)], args := [d] }
  | _ => none }
def tableOnlyRow : OpenClaim := { program := "ytpbcigilipdedaa", sum := "d5e4470e9d2c8fe60140a71e4c0eb7844a7cc532e9e4af773871283a5f3f83d4", func := "secateur/secateurlaw09.TableOnly", spec := "tableOnly", unfollowed := true, recurses := true, apart := false }
def TableOnlySaid : Prop := tableOnlyRow.holds Try.pinned (OpenSpec.ofChange tableOnlySpec)

/-- ITS FALSE NEIGHBOUR: 'it returns false'. Refute it at one input. -/
def tableOnlyWrong : ChangeSpec := { name := "tableOnly", fn := fun _ => fun
  | [d] => { results := [.lit (.bool false)], args := [d] }
  | _ => none }
def TableOnlyWrongFalsely : Prop := tableOnlyRow.holds Try.pinned (OpenSpec.ofChange tableOnlyWrong)

/-- 'secateurlaw09.TableRows': WHATEVER THE INPUT: true; the input reads as it did. -/
def tableRowsSpec : ChangeSpec := { name := "tableRows", fn := fun _ => fun
  | [d] => { results := [.lit (.bool true)], args := [d] }
  | _ => none }
def tableRowsRow : OpenClaim := { program := "ytpbcigilipdedaa", sum := "d5e4470e9d2c8fe60140a71e4c0eb7844a7cc532e9e4af773871283a5f3f83d4", func := "secateur/secateurlaw09.TableRows", spec := "tableRows", unfollowed := true, recurses := true, apart := false }
def TableRowsSaid : Prop := tableRowsRow.holds Try.pinned (OpenSpec.ofChange tableRowsSpec)

/-- ITS FALSE NEIGHBOUR: 'it returns false'. Refute it at one input. -/
def tableRowsWrong : ChangeSpec := { name := "tableRows", fn := fun _ => fun
  | [d] => { results := [.lit (.bool false)], args := [d] }
  | _ => none }
def TableRowsWrongFalsely : Prop := tableRowsRow.holds Try.pinned (OpenSpec.ofChange tableRowsWrong)

/-- 'secateurlaw09.TableStill': WHATEVER THE INPUT: true; the input reads as it did. -/
def tableStillSpec : ChangeSpec := { name := "tableStill", fn := fun _ => fun
  | [d1, d2] => { results := [.lit (.bool true)], args := [d1, d2] }
  | _ => none }
def tableStillRow : OpenClaim := { program := "ytpbcigilipdedaa", sum := "d5e4470e9d2c8fe60140a71e4c0eb7844a7cc532e9e4af773871283a5f3f83d4", func := "secateur/secateurlaw09.TableStill", spec := "tableStill", unfollowed := true, recurses := true, apart := false }
def TableStillSaid : Prop := tableStillRow.holds Try.pinned (OpenSpec.ofChange tableStillSpec)

/-- ITS FALSE NEIGHBOUR: 'it returns false'. Refute it at one input. -/
def tableStillWrong : ChangeSpec := { name := "tableStill", fn := fun _ => fun
  | [d1, d2] => { results := [.lit (.bool false)], args := [d1, d2] }
  | _ => none }
def TableStillWrongFalsely : Prop := tableStillRow.holds Try.pinned (OpenSpec.ofChange tableStillWrong)

/-- 'secateurlaw10.ElementPrunes': WHATEVER THE INPUT: true; the input reads as it did. -/
def elementPrunesSpec : ChangeSpec := { name := "elementPrunes", fn := fun _ => fun
  | [d] => { results := [.lit (.bool true)], args := [d] }
  | _ => none }
def elementPrunesRow : OpenClaim := { program := "ytpbcigilipdedaa", sum := "d5e4470e9d2c8fe60140a71e4c0eb7844a7cc532e9e4af773871283a5f3f83d4", func := "secateur/secateurlaw10.ElementPrunes", spec := "elementPrunes", unfollowed := true, recurses := true, apart := false }
def ElementPrunesSaid : Prop := elementPrunesRow.holds Try.pinned (OpenSpec.ofChange elementPrunesSpec)

/-- ITS FALSE NEIGHBOUR: 'it returns false'. Refute it at one input. -/
def elementPrunesWrong : ChangeSpec := { name := "elementPrunes", fn := fun _ => fun
  | [d] => { results := [.lit (.bool false)], args := [d] }
  | _ => none }
def ElementPrunesWrongFalsely : Prop := elementPrunesRow.holds Try.pinned (OpenSpec.ofChange elementPrunesWrong)

/-- 'secateurlaw10.ElementPlaces': WHATEVER THE INPUT: true; the input reads as it did. -/
def elementPlacesSpec : ChangeSpec := { name := "elementPlaces", fn := fun _ => fun
  | [d] => { results := [.lit (.bool true)], args := [d] }
  | _ => none }
def elementPlacesRow : OpenClaim := { program := "ytpbcigilipdedaa", sum := "d5e4470e9d2c8fe60140a71e4c0eb7844a7cc532e9e4af773871283a5f3f83d4", func := "secateur/secateurlaw10.ElementPlaces", spec := "elementPlaces", unfollowed := true, recurses := true, apart := false }
def ElementPlacesSaid : Prop := elementPlacesRow.holds Try.pinned (OpenSpec.ofChange elementPlacesSpec)

/-- ITS FALSE NEIGHBOUR: 'it returns false'. Refute it at one input. -/
def elementPlacesWrong : ChangeSpec := { name := "elementPlaces", fn := fun _ => fun
  | [d] => { results := [.lit (.bool false)], args := [d] }
  | _ => none }
def ElementPlacesWrongFalsely : Prop := elementPlacesRow.holds Try.pinned (OpenSpec.ofChange elementPlacesWrong)

/-- 'secateurlaw10.ElementKnown': WHATEVER THE INPUT: true; the input reads as it did. -/
def elementKnownSpec : ChangeSpec := { name := "elementKnown", fn := fun _ => fun
  | [d1, d2] => { results := [.lit (.bool true)], args := [d1, d2] }
  | _ => none }
def elementKnownRow : OpenClaim := { program := "ytpbcigilipdedaa", sum := "d5e4470e9d2c8fe60140a71e4c0eb7844a7cc532e9e4af773871283a5f3f83d4", func := "secateur/secateurlaw10.ElementKnown", spec := "elementKnown", unfollowed := true, recurses := true, apart := false }
def ElementKnownSaid : Prop := elementKnownRow.holds Try.pinned (OpenSpec.ofChange elementKnownSpec)

/-- ITS FALSE NEIGHBOUR: 'it returns false'. Refute it at one input. -/
def elementKnownWrong : ChangeSpec := { name := "elementKnown", fn := fun _ => fun
  | [d1, d2] => { results := [.lit (.bool false)], args := [d1, d2] }
  | _ => none }
def ElementKnownWrongFalsely : Prop := elementKnownRow.holds Try.pinned (OpenSpec.ofChange elementKnownWrong)

/-- 'secateurlaw10.ElementDecides': WHATEVER THE INPUT: true; the input reads as it did. -/
def elementDecidesSpec : ChangeSpec := { name := "elementDecides", fn := fun _ => fun
  | [d] => { results := [.lit (.bool true)], args := [d] }
  | _ => none }
def elementDecidesRow : OpenClaim := { program := "ytpbcigilipdedaa", sum := "d5e4470e9d2c8fe60140a71e4c0eb7844a7cc532e9e4af773871283a5f3f83d4", func := "secateur/secateurlaw10.ElementDecides", spec := "elementDecides", unfollowed := true, recurses := true, apart := false }
def ElementDecidesSaid : Prop := elementDecidesRow.holds Try.pinned (OpenSpec.ofChange elementDecidesSpec)

/-- ITS FALSE NEIGHBOUR: 'it returns false'. Refute it at one input. -/
def elementDecidesWrong : ChangeSpec := { name := "elementDecides", fn := fun _ => fun
  | [d] => { results := [.lit (.bool false)], args := [d] }
  | _ => none }
def ElementDecidesWrongFalsely : Prop := elementDecidesRow.holds Try.pinned (OpenSpec.ofChange elementDecidesWrong)

/-- 'secateurlaw10.ElementFar': WHATEVER THE INPUT: true; the input reads as it did. -/
def elementFarSpec : ChangeSpec := { name := "elementFar", fn := fun _ => fun
  | [d] => { results := [.lit (.bool true)], args := [d] }
  | _ => none }
def elementFarRow : OpenClaim := { program := "ytpbcigilipdedaa", sum := "d5e4470e9d2c8fe60140a71e4c0eb7844a7cc532e9e4af773871283a5f3f83d4", func := "secateur/secateurlaw10.ElementFar", spec := "elementFar", unfollowed := true, recurses := true, apart := false }
def ElementFarSaid : Prop := elementFarRow.holds Try.pinned (OpenSpec.ofChange elementFarSpec)

/-- ITS FALSE NEIGHBOUR: 'it returns false'. Refute it at one input. -/
def elementFarWrong : ChangeSpec := { name := "elementFar", fn := fun _ => fun
  | [d] => { results := [.lit (.bool false)], args := [d] }
  | _ => none }
def ElementFarWrongFalsely : Prop := elementFarRow.holds Try.pinned (OpenSpec.ofChange elementFarWrong)

/- THE SECOND FORM. 'bulk': how many values and letters a reading holds, each counted each time it is reached (what is shared counts as often as it is met; a slice's spare places count too). A statement '..UptoSaid' is the law's where the arguments, and the package variables that the reading takes, are together of bulk at most 1048576: NARROWER than '..Said'. Prove '..Said' where nothing that the law and all that it calls make is longer than what came in: it says more and counts as full. Else prove '..UptoSaid'. A law counts once. -/
mutual
def uptoBulk {H : Type} : DataW H → Nat
  | .lit (.string bytes) => bytes.length + 1
  | .lit _ => 1
  | .nil => 1
  | .ptr d => uptoBulk d + 1
  | .slice elems spare => uptoBulkAll elems + uptoBulkAll spare + 1
  | .agg parts => uptoBulkAll parts + 1
  | .iface _ d => uptoBulk d + 1
  | .map entries => uptoBulkEntries entries + 1
  | .held _ => 1
def uptoBulkAll {H : Type} : List (DataW H) → Nat
  | [] => 0
  | d :: r => uptoBulk d + uptoBulkAll r
def uptoBulkEntries {H : Type} : List (Lit × DataW H) → Nat
  | [] => 0
  | x :: r => uptoBulkEntry x + uptoBulkEntries r
def uptoBulkEntry {H : Type} : Lit × DataW H → Nat
  | (.string bytes, d) => bytes.length + uptoBulk d + 1
  | (_, d) => uptoBulk d + 1
 end
def uptoSmall : (H : Type) → List (DataW H) → Bool := fun _ ds => decide (uptoBulkAll ds ≤ 1048576)
def OpenSpec.upto (s : _root_.Go.ChangeSpec) : _root_.Go.OpenSpec := { _root_.Go.OpenSpec.ofChange s with cond := some uptoSmall }

/-- 'secateurlaw09.TablePrunes', WHERE WHAT IT READS IS OF BULK AT MOST 1048576: true; the input reads as it did. -/
def tablePrunesUptoRow : OpenClaim := { program := "ytpbcigilipdedaa", sum := "d5e4470e9d2c8fe60140a71e4c0eb7844a7cc532e9e4af773871283a5f3f83d4", func := "secateur/secateurlaw09.TablePrunes", spec := "tablePrunes", unfollowed := true, recurses := true, apart := false, narrowed := true }
def TablePrunesUptoSaid : Prop := tablePrunesUptoRow.holds Try.pinned (OpenSpec.upto tablePrunesSpec)

/-- 'secateurlaw09.TableSorts', WHERE WHAT IT READS IS OF BULK AT MOST 1048576: true; the input reads as it did. -/
def tableSortsUptoRow : OpenClaim := { program := "ytpbcigilipdedaa", sum := "d5e4470e9d2c8fe60140a71e4c0eb7844a7cc532e9e4af773871283a5f3f83d4", func := "secateur/secateurlaw09.TableSorts", spec := "tableSorts", unfollowed := true, recurses := true, apart := false, narrowed := true }
def TableSortsUptoSaid : Prop := tableSortsUptoRow.holds Try.pinned (OpenSpec.upto tableSortsSpec)

/-- 'secateurlaw09.TableOrders', WHERE WHAT IT READS IS OF BULK AT MOST 1048576: true; the input reads as it did. -/
def tableOrdersUptoRow : OpenClaim := { program := "ytpbcigilipdedaa", sum := "d5e4470e9d2c8fe60140a71e4c0eb7844a7cc532e9e4af773871283a5f3f83d4", func := "secateur/secateurlaw09.TableOrders", spec := "tableOrders", unfollowed := true, recurses := true, apart := false, narrowed := true }
def TableOrdersUptoSaid : Prop := tableOrdersUptoRow.holds Try.pinned (OpenSpec.upto tableOrdersSpec)

/-- 'secateurlaw09.TableOnly', WHERE WHAT IT READS IS OF BULK AT MOST 1048576: true; the input reads as it did. -/
def tableOnlyUptoRow : OpenClaim := { program := "ytpbcigilipdedaa", sum := "d5e4470e9d2c8fe60140a71e4c0eb7844a7cc532e9e4af773871283a5f3f83d4", func := "secateur/secateurlaw09.TableOnly", spec := "tableOnly", unfollowed := true, recurses := true, apart := false, narrowed := true }
def TableOnlyUptoSaid : Prop := tableOnlyUptoRow.holds Try.pinned (OpenSpec.upto tableOnlySpec)

/-- 'secateurlaw09.TableRows', WHERE WHAT IT READS IS OF BULK AT MOST 1048576: true; the input reads as it did. -/
def tableRowsUptoRow : OpenClaim := { program := "ytpbcigilipdedaa", sum := "d5e4470e9d2c8fe60140a71e4c0eb7844a7cc532e9e4af773871283a5f3f83d4", func := "secateur/secateurlaw09.TableRows", spec := "tableRows", unfollowed := true, recurses := true, apart := false, narrowed := true }
def TableRowsUptoSaid : Prop := tableRowsUptoRow.holds Try.pinned (OpenSpec.upto tableRowsSpec)

/-- 'secateurlaw09.TableStill', WHERE WHAT IT READS IS OF BULK AT MOST 1048576: true; the input reads as it did. -/
def tableStillUptoRow : OpenClaim := { program := "ytpbcigilipdedaa", sum := "d5e4470e9d2c8fe60140a71e4c0eb7844a7cc532e9e4af773871283a5f3f83d4", func := "secateur/secateurlaw09.TableStill", spec := "tableStill", unfollowed := true, recurses := true, apart := false, narrowed := true }
def TableStillUptoSaid : Prop := tableStillUptoRow.holds Try.pinned (OpenSpec.upto tableStillSpec)

/-- 'secateurlaw10.ElementPrunes', WHERE WHAT IT READS IS OF BULK AT MOST 1048576: true; the input reads as it did. -/
def elementPrunesUptoRow : OpenClaim := { program := "ytpbcigilipdedaa", sum := "d5e4470e9d2c8fe60140a71e4c0eb7844a7cc532e9e4af773871283a5f3f83d4", func := "secateur/secateurlaw10.ElementPrunes", spec := "elementPrunes", unfollowed := true, recurses := true, apart := false, narrowed := true }
def ElementPrunesUptoSaid : Prop := elementPrunesUptoRow.holds Try.pinned (OpenSpec.upto elementPrunesSpec)

/-- 'secateurlaw10.ElementPlaces', WHERE WHAT IT READS IS OF BULK AT MOST 1048576: true; the input reads as it did. -/
def elementPlacesUptoRow : OpenClaim := { program := "ytpbcigilipdedaa", sum := "d5e4470e9d2c8fe60140a71e4c0eb7844a7cc532e9e4af773871283a5f3f83d4", func := "secateur/secateurlaw10.ElementPlaces", spec := "elementPlaces", unfollowed := true, recurses := true, apart := false, narrowed := true }
def ElementPlacesUptoSaid : Prop := elementPlacesUptoRow.holds Try.pinned (OpenSpec.upto elementPlacesSpec)

/-- 'secateurlaw10.ElementKnown', WHERE WHAT IT READS IS OF BULK AT MOST 1048576: true; the input reads as it did. -/
def elementKnownUptoRow : OpenClaim := { program := "ytpbcigilipdedaa", sum := "d5e4470e9d2c8fe60140a71e4c0eb7844a7cc532e9e4af773871283a5f3f83d4", func := "secateur/secateurlaw10.ElementKnown", spec := "elementKnown", unfollowed := true, recurses := true, apart := false, narrowed := true }
def ElementKnownUptoSaid : Prop := elementKnownUptoRow.holds Try.pinned (OpenSpec.upto elementKnownSpec)

/-- 'secateurlaw10.ElementDecides', WHERE WHAT IT READS IS OF BULK AT MOST 1048576: true; the input reads as it did. -/
def elementDecidesUptoRow : OpenClaim := { program := "ytpbcigilipdedaa", sum := "d5e4470e9d2c8fe60140a71e4c0eb7844a7cc532e9e4af773871283a5f3f83d4", func := "secateur/secateurlaw10.ElementDecides", spec := "elementDecides", unfollowed := true, recurses := true, apart := false, narrowed := true }
def ElementDecidesUptoSaid : Prop := elementDecidesUptoRow.holds Try.pinned (OpenSpec.upto elementDecidesSpec)

/-- 'secateurlaw10.ElementFar', WHERE WHAT IT READS IS OF BULK AT MOST 1048576: true; the input reads as it did. -/
def elementFarUptoRow : OpenClaim := { program := "ytpbcigilipdedaa", sum := "d5e4470e9d2c8fe60140a71e4c0eb7844a7cc532e9e4af773871283a5f3f83d4", func := "secateur/secateurlaw10.ElementFar", spec := "elementFar", unfollowed := true, recurses := true, apart := false, narrowed := true }
def ElementFarUptoSaid : Prop := elementFarUptoRow.holds Try.pinned (OpenSpec.upto elementFarSpec)

end Rows
end Go.Proofs.Ytpbcigilipdedaa
