/-
  No cell of these rows narrows 'for every input' (looked for: loops, veiled, ifaces, maps, wideKeys, modest, calm, conditions, laid).
  DERIVED. THE GIVEN ROWS OF THIS SEAT. 10 by the template 'for every input the law returns true; each argument reads behind the call as it read before'; 0 by the template 'total and deterministic' (their statements: YtklanjkndoikeaaTotals.lean).
  GIVEN WITH THE SEED: the statements are not yours to turn. If you find one false, say at which input.
  Laid BY PROGRAM, IN A SANDBOX (cutbox-rows.mjs): the forced cells as the released guide's own fill.sh prints them over the translation cca2391577eb68a2… (all of the seat's roots in one cut). By AI agents, Wed Nov 11 2026. No macro, syntax, notation, axiom, sorry.
-/
import Derived.Test.YtklanjkndoikeaaChecked
import GoSem.Claim
import GoSem.ClaimJoined
import GoSem.ClaimMapViews
import Derived.JoinedTies
import Derived.KernelRfl
namespace Go.Proofs.Ytklanjkndoikeaa
/- THE CELL 'sum', in the pinned program and in every row, IS THE sha256 OF THE DUMP (.gsa) THAT YtklanjkndoikeaaProg.lean LOADS. Nothing in Lean hashes anything: it is a label: what it is worth is what the hold of that sum in a sandbox is worth. -/
noncomputable def Try.pinned : Pinned := { name := "ytklanjkndoikeaa", sum := "cca2391577eb68a29d5111a235cd92b9e086604883e3e8be263478857313ec82", checked := Try.checked }
namespace Rows
def none {H : Type} : Left H := { results := [], args := [] }

/-- 'secateurlaw02.DomChecks': WHATEVER THE INPUT: true; the input reads as it did. -/
def domChecksSpec : ChangeSpec := { name := "domChecks", fn := fun _ => fun
  | [d1, d2] => { results := [.lit (.bool true)], args := [d1, d2] }
  | _ => none }
def domChecksRow : OpenClaim := { program := "ytklanjkndoikeaa", sum := "cca2391577eb68a29d5111a235cd92b9e086604883e3e8be263478857313ec82", func := "secateur/secateurlaw02.DomChecks", spec := "domChecks", unfollowed := true, recurses := true, apart := false }
def DomChecksSaid : Prop := domChecksRow.holds Try.pinned (OpenSpec.ofChange domChecksSpec)

/-- ITS FALSE NEIGHBOUR: 'it returns false'. Refute it at one input. -/
def domChecksWrong : ChangeSpec := { name := "domChecks", fn := fun _ => fun
  | [d1, d2] => { results := [.lit (.bool false)], args := [d1, d2] }
  | _ => none }
def DomChecksWrongFalsely : Prop := domChecksRow.holds Try.pinned (OpenSpec.ofChange domChecksWrong)

/-- 'secateurlaw02.DomLines': WHATEVER THE INPUT: true; the input reads as it did. -/
def domLinesSpec : ChangeSpec := { name := "domLines", fn := fun _ => fun
  | [d1, d2, d3] => { results := [.lit (.bool true)], args := [d1, d2, d3] }
  | _ => none }
def domLinesRow : OpenClaim := { program := "ytklanjkndoikeaa", sum := "cca2391577eb68a29d5111a235cd92b9e086604883e3e8be263478857313ec82", func := "secateur/secateurlaw02.DomLines", spec := "domLines", unfollowed := true, recurses := true, apart := false }
def DomLinesSaid : Prop := domLinesRow.holds Try.pinned (OpenSpec.ofChange domLinesSpec)

/-- ITS FALSE NEIGHBOUR: 'it returns false'. Refute it at one input. -/
def domLinesWrong : ChangeSpec := { name := "domLines", fn := fun _ => fun
  | [d1, d2, d3] => { results := [.lit (.bool false)], args := [d1, d2, d3] }
  | _ => none }
def DomLinesWrongFalsely : Prop := domLinesRow.holds Try.pinned (OpenSpec.ofChange domLinesWrong)

/-- 'secateurlaw02.DomSteps': WHATEVER THE INPUT: true; the input reads as it did. -/
def domStepsSpec : ChangeSpec := { name := "domSteps", fn := fun _ => fun
  | [d] => { results := [.lit (.bool true)], args := [d] }
  | _ => none }
def domStepsRow : OpenClaim := { program := "ytklanjkndoikeaa", sum := "cca2391577eb68a29d5111a235cd92b9e086604883e3e8be263478857313ec82", func := "secateur/secateurlaw02.DomSteps", spec := "domSteps", unfollowed := true, recurses := true, apart := false }
def DomStepsSaid : Prop := domStepsRow.holds Try.pinned (OpenSpec.ofChange domStepsSpec)

/-- ITS FALSE NEIGHBOUR: 'it returns false'. Refute it at one input. -/
def domStepsWrong : ChangeSpec := { name := "domSteps", fn := fun _ => fun
  | [d] => { results := [.lit (.bool false)], args := [d] }
  | _ => none }
def DomStepsWrongFalsely : Prop := domStepsRow.holds Try.pinned (OpenSpec.ofChange domStepsWrong)

/-- 'secateurlaw02.DomTells': WHATEVER THE INPUT: true; the input reads as it did. -/
def domTellsSpec : ChangeSpec := { name := "domTells", fn := fun _ => fun
  | [d1, d2] => { results := [.lit (.bool true)], args := [d1, d2] }
  | _ => none }
def domTellsRow : OpenClaim := { program := "ytklanjkndoikeaa", sum := "cca2391577eb68a29d5111a235cd92b9e086604883e3e8be263478857313ec82", func := "secateur/secateurlaw02.DomTells", spec := "domTells", unfollowed := true, recurses := true, apart := false }
def DomTellsSaid : Prop := domTellsRow.holds Try.pinned (OpenSpec.ofChange domTellsSpec)

/-- ITS FALSE NEIGHBOUR: 'it returns false'. Refute it at one input. -/
def domTellsWrong : ChangeSpec := { name := "domTells", fn := fun _ => fun
  | [d1, d2] => { results := [.lit (.bool false)], args := [d1, d2] }
  | _ => none }
def DomTellsWrongFalsely : Prop := domTellsRow.holds Try.pinned (OpenSpec.ofChange domTellsWrong)

/-- 'secateurlaw02.DomOrder': WHATEVER THE INPUT: true; the input reads as it did. -/
def domOrderSpec : ChangeSpec := { name := "domOrder", fn := fun _ => fun
  | [d] => { results := [.lit (.bool true)], args := [d] }
  | _ => none }
def domOrderRow : OpenClaim := { program := "ytklanjkndoikeaa", sum := "cca2391577eb68a29d5111a235cd92b9e086604883e3e8be263478857313ec82", func := "secateur/secateurlaw02.DomOrder", spec := "domOrder", unfollowed := true, recurses := true, apart := false }
def DomOrderSaid : Prop := domOrderRow.holds Try.pinned (OpenSpec.ofChange domOrderSpec)

/-- ITS FALSE NEIGHBOUR: 'it returns false'. Refute it at one input. -/
def domOrderWrong : ChangeSpec := { name := "domOrder", fn := fun _ => fun
  | [d] => { results := [.lit (.bool false)], args := [d] }
  | _ => none }
def DomOrderWrongFalsely : Prop := domOrderRow.holds Try.pinned (OpenSpec.ofChange domOrderWrong)

/-- 'secateurlaw02.DomThree': WHATEVER THE INPUT: true; the input reads as it did. -/
def domThreeSpec : ChangeSpec := { name := "domThree", fn := fun _ => fun
  | [d1, d2, d3] => { results := [.lit (.bool true)], args := [d1, d2, d3] }
  | _ => none }
def domThreeRow : OpenClaim := { program := "ytklanjkndoikeaa", sum := "cca2391577eb68a29d5111a235cd92b9e086604883e3e8be263478857313ec82", func := "secateur/secateurlaw02.DomThree", spec := "domThree", unfollowed := true, recurses := true, apart := false }
def DomThreeSaid : Prop := domThreeRow.holds Try.pinned (OpenSpec.ofChange domThreeSpec)

/-- ITS FALSE NEIGHBOUR: 'it returns false'. Refute it at one input. -/
def domThreeWrong : ChangeSpec := { name := "domThree", fn := fun _ => fun
  | [d1, d2, d3] => { results := [.lit (.bool false)], args := [d1, d2, d3] }
  | _ => none }
def DomThreeWrongFalsely : Prop := domThreeRow.holds Try.pinned (OpenSpec.ofChange domThreeWrong)

/-- 'secateurlaw02.DomJoins': WHATEVER THE INPUT: true; the input reads as it did. -/
def domJoinsSpec : ChangeSpec := { name := "domJoins", fn := fun _ => fun
  | [d1, d2, d3] => { results := [.lit (.bool true)], args := [d1, d2, d3] }
  | _ => none }
def domJoinsRow : OpenClaim := { program := "ytklanjkndoikeaa", sum := "cca2391577eb68a29d5111a235cd92b9e086604883e3e8be263478857313ec82", func := "secateur/secateurlaw02.DomJoins", spec := "domJoins", unfollowed := true, recurses := true, apart := false }
def DomJoinsSaid : Prop := domJoinsRow.holds Try.pinned (OpenSpec.ofChange domJoinsSpec)

/-- ITS FALSE NEIGHBOUR: 'it returns false'. Refute it at one input. -/
def domJoinsWrong : ChangeSpec := { name := "domJoins", fn := fun _ => fun
  | [d1, d2, d3] => { results := [.lit (.bool false)], args := [d1, d2, d3] }
  | _ => none }
def DomJoinsWrongFalsely : Prop := domJoinsRow.holds Try.pinned (OpenSpec.ofChange domJoinsWrong)

/-- 'secateurlaw02.DomBack': WHATEVER THE INPUT: true; the input reads as it did. -/
def domBackSpec : ChangeSpec := { name := "domBack", fn := fun _ => fun
  | [d1, d2, d3] => { results := [.lit (.bool true)], args := [d1, d2, d3] }
  | _ => none }
def domBackRow : OpenClaim := { program := "ytklanjkndoikeaa", sum := "cca2391577eb68a29d5111a235cd92b9e086604883e3e8be263478857313ec82", func := "secateur/secateurlaw02.DomBack", spec := "domBack", unfollowed := true, recurses := true, apart := false }
def DomBackSaid : Prop := domBackRow.holds Try.pinned (OpenSpec.ofChange domBackSpec)

/-- ITS FALSE NEIGHBOUR: 'it returns false'. Refute it at one input. -/
def domBackWrong : ChangeSpec := { name := "domBack", fn := fun _ => fun
  | [d1, d2, d3] => { results := [.lit (.bool false)], args := [d1, d2, d3] }
  | _ => none }
def DomBackWrongFalsely : Prop := domBackRow.holds Try.pinned (OpenSpec.ofChange domBackWrong)

/-- 'secateurlaw02.DomOrders': WHATEVER THE INPUT: true; the input reads as it did. -/
def domOrdersSpec : ChangeSpec := { name := "domOrders", fn := fun _ => fun
  | [d1, d2, d3] => { results := [.lit (.bool true)], args := [d1, d2, d3] }
  | _ => none }
def domOrdersRow : OpenClaim := { program := "ytklanjkndoikeaa", sum := "cca2391577eb68a29d5111a235cd92b9e086604883e3e8be263478857313ec82", func := "secateur/secateurlaw02.DomOrders", spec := "domOrders", unfollowed := true, recurses := true, apart := false }
def DomOrdersSaid : Prop := domOrdersRow.holds Try.pinned (OpenSpec.ofChange domOrdersSpec)

/-- ITS FALSE NEIGHBOUR: 'it returns false'. Refute it at one input. -/
def domOrdersWrong : ChangeSpec := { name := "domOrders", fn := fun _ => fun
  | [d1, d2, d3] => { results := [.lit (.bool false)], args := [d1, d2, d3] }
  | _ => none }
def DomOrdersWrongFalsely : Prop := domOrdersRow.holds Try.pinned (OpenSpec.ofChange domOrdersWrong)

/-- 'secateurlaw02.DomHoles': WHATEVER THE INPUT: true; the input reads as it did. -/
def domHolesSpec : ChangeSpec := { name := "domHoles", fn := fun _ => fun
  | [d1, d2] => { results := [.lit (.bool true)], args := [d1, d2] }
  | _ => none }
def domHolesRow : OpenClaim := { program := "ytklanjkndoikeaa", sum := "cca2391577eb68a29d5111a235cd92b9e086604883e3e8be263478857313ec82", func := "secateur/secateurlaw02.DomHoles", spec := "domHoles", unfollowed := true, recurses := true, apart := false }
def DomHolesSaid : Prop := domHolesRow.holds Try.pinned (OpenSpec.ofChange domHolesSpec)

/-- ITS FALSE NEIGHBOUR: 'it returns false'. Refute it at one input. -/
def domHolesWrong : ChangeSpec := { name := "domHoles", fn := fun _ => fun
  | [d1, d2] => { results := [.lit (.bool false)], args := [d1, d2] }
  | _ => none }
def DomHolesWrongFalsely : Prop := domHolesRow.holds Try.pinned (OpenSpec.ofChange domHolesWrong)

/- THE SECOND FORM. 'bulk': how many values and letters a reading holds, each counted each time it is reached (what is shared counts as often as it is met; a slice's spare places count too). A statement '..UptoSaid' is the law's where the arguments, and the package variables that the reading takes, are together of bulk at most 1048576: NARROWER than '..Said'. Prove '..Said' where nothing that the law and all that it calls make is longer than what came in: it says more and counts as full. Else prove '..UptoSaid'. A law counts once. -/
mutual
def uptoBulk {H : Type} : DataW H → Nat
  | .lit (.string bytes) => bytes.length + 1
  | .lit _ => 1
  | .nil => 1
  | .ptr d => uptoBulk d + 1
  | .slice elems spare => uptoBulkAll elems + uptoBulkAll spare + 1
  | .agg parts => uptoBulkAll parts + 1
  | .iface _ d => uptoBulk d + 1
  | .map entries => uptoBulkEntries entries + 1
  | .held _ => 1
def uptoBulkAll {H : Type} : List (DataW H) → Nat
  | [] => 0
  | d :: r => uptoBulk d + uptoBulkAll r
def uptoBulkEntries {H : Type} : List (Lit × DataW H) → Nat
  | [] => 0
  | x :: r => uptoBulkEntry x + uptoBulkEntries r
def uptoBulkEntry {H : Type} : Lit × DataW H → Nat
  | (.string bytes, d) => bytes.length + uptoBulk d + 1
  | (_, d) => uptoBulk d + 1
 end
def uptoSmall : (H : Type) → List (DataW H) → Bool := fun _ ds => decide (uptoBulkAll ds ≤ 1048576)
def OpenSpec.upto (s : _root_.Go.ChangeSpec) : _root_.Go.OpenSpec := { _root_.Go.OpenSpec.ofChange s with cond := some uptoSmall }

/-- 'secateurlaw02.DomChecks', WHERE WHAT IT READS IS OF BULK AT MOST 1048576: true; the input reads as it did. -/
def domChecksUptoRow : OpenClaim := { program := "ytklanjkndoikeaa", sum := "cca2391577eb68a29d5111a235cd92b9e086604883e3e8be263478857313ec82", func := "secateur/secateurlaw02.DomChecks", spec := "domChecks", unfollowed := true, recurses := true, apart := false, narrowed := true }
def DomChecksUptoSaid : Prop := domChecksUptoRow.holds Try.pinned (OpenSpec.upto domChecksSpec)

/-- 'secateurlaw02.DomLines', WHERE WHAT IT READS IS OF BULK AT MOST 1048576: true; the input reads as it did. -/
def domLinesUptoRow : OpenClaim := { program := "ytklanjkndoikeaa", sum := "cca2391577eb68a29d5111a235cd92b9e086604883e3e8be263478857313ec82", func := "secateur/secateurlaw02.DomLines", spec := "domLines", unfollowed := true, recurses := true, apart := false, narrowed := true }
def DomLinesUptoSaid : Prop := domLinesUptoRow.holds Try.pinned (OpenSpec.upto domLinesSpec)

/-- 'secateurlaw02.DomSteps', WHERE WHAT IT READS IS OF BULK AT MOST 1048576: true; the input reads as it did. -/
def domStepsUptoRow : OpenClaim := { program := "ytklanjkndoikeaa", sum := "cca2391577eb68a29d5111a235cd92b9e086604883e3e8be263478857313ec82", func := "secateur/secateurlaw02.DomSteps", spec := "domSteps", unfollowed := true, recurses := true, apart := false, narrowed := true }
def DomStepsUptoSaid : Prop := domStepsUptoRow.holds Try.pinned (OpenSpec.upto domStepsSpec)

/-- 'secateurlaw02.DomTells', WHERE WHAT IT READS IS OF BULK AT MOST 1048576: true; the input reads as it did. -/
def domTellsUptoRow : OpenClaim := { program := "ytklanjkndoikeaa", sum := "cca2391577eb68a29d5111a235cd92b9e086604883e3e8be263478857313ec82", func := "secateur/secateurlaw02.DomTells", spec := "domTells", unfollowed := true, recurses := true, apart := false, narrowed := true }
def DomTellsUptoSaid : Prop := domTellsUptoRow.holds Try.pinned (OpenSpec.upto domTellsSpec)

/-- 'secateurlaw02.DomOrder', WHERE WHAT IT READS IS OF BULK AT MOST 1048576: true; the input reads as it did. -/
def domOrderUptoRow : OpenClaim := { program := "ytklanjkndoikeaa", sum := "cca2391577eb68a29d5111a235cd92b9e086604883e3e8be263478857313ec82", func := "secateur/secateurlaw02.DomOrder", spec := "domOrder", unfollowed := true, recurses := true, apart := false, narrowed := true }
def DomOrderUptoSaid : Prop := domOrderUptoRow.holds Try.pinned (OpenSpec.upto domOrderSpec)

/-- 'secateurlaw02.DomThree', WHERE WHAT IT READS IS OF BULK AT MOST 1048576: true; the input reads as it did. -/
def domThreeUptoRow : OpenClaim := { program := "ytklanjkndoikeaa", sum := "cca2391577eb68a29d5111a235cd92b9e086604883e3e8be263478857313ec82", func := "secateur/secateurlaw02.DomThree", spec := "domThree", unfollowed := true, recurses := true, apart := false, narrowed := true }
def DomThreeUptoSaid : Prop := domThreeUptoRow.holds Try.pinned (OpenSpec.upto domThreeSpec)

/-- 'secateurlaw02.DomJoins', WHERE WHAT IT READS IS OF BULK AT MOST 1048576: true; the input reads as it did. -/
def domJoinsUptoRow : OpenClaim := { program := "ytklanjkndoikeaa", sum := "cca2391577eb68a29d5111a235cd92b9e086604883e3e8be263478857313ec82", func := "secateur/secateurlaw02.DomJoins", spec := "domJoins", unfollowed := true, recurses := true, apart := false, narrowed := true }
def DomJoinsUptoSaid : Prop := domJoinsUptoRow.holds Try.pinned (OpenSpec.upto domJoinsSpec)

/-- 'secateurlaw02.DomBack', WHERE WHAT IT READS IS OF BULK AT MOST 1048576: true; the input reads as it did. -/
def domBackUptoRow : OpenClaim := { program := "ytklanjkndoikeaa", sum := "cca2391577eb68a29d5111a235cd92b9e086604883e3e8be263478857313ec82", func := "secateur/secateurlaw02.DomBack", spec := "domBack", unfollowed := true, recurses := true, apart := false, narrowed := true }
def DomBackUptoSaid : Prop := domBackUptoRow.holds Try.pinned (OpenSpec.upto domBackSpec)

/-- 'secateurlaw02.DomOrders', WHERE WHAT IT READS IS OF BULK AT MOST 1048576: true; the input reads as it did. -/
def domOrdersUptoRow : OpenClaim := { program := "ytklanjkndoikeaa", sum := "cca2391577eb68a29d5111a235cd92b9e086604883e3e8be263478857313ec82", func := "secateur/secateurlaw02.DomOrders", spec := "domOrders", unfollowed := true, recurses := true, apart := false, narrowed := true }
def DomOrdersUptoSaid : Prop := domOrdersUptoRow.holds Try.pinned (OpenSpec.upto domOrdersSpec)

/-- 'secateurlaw02.DomHoles', WHERE WHAT IT READS IS OF BULK AT MOST 1048576: true; the input reads as it did. -/
def domHolesUptoRow : OpenClaim := { program := "ytklanjkndoikeaa", sum := "cca2391577eb68a29d5111a235cd92b9e086604883e3e8be263478857313ec82", func := "secateur/secateurlaw02.DomHoles", spec := "domHoles", unfollowed := true, recurses := true, apart := false, narrowed := true }
def DomHolesUptoSaid : Prop := domHolesUptoRow.holds Try.pinned (OpenSpec.upto domHolesSpec)

end Rows
end Go.Proofs.Ytklanjkndoikeaa
