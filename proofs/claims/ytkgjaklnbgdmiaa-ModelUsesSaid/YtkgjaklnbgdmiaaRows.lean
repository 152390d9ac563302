/-
  No cell of these rows narrows 'for every input' (looked for: loops, veiled, ifaces, maps, wideKeys, modest, calm, conditions, laid).
  DERIVED. THE GIVEN ROWS OF THIS SEAT. 7 by the template 'for every input the law returns true; each argument reads behind the call as it read before'; 0 by the template 'total and deterministic' (their statements: YtkgjaklnbgdmiaaTotals.lean).
  GIVEN WITH THE SEED: the statements are not yours to turn. If you find one false, say at which input.
  Laid BY PROGRAM, IN A SANDBOX (cutbox-rows.mjs): the forced cells as the released guide's own fill.sh prints them over the translation bed42a0c2cd14678… (all of the seat's roots in one cut). By AI agents, Wed Nov 11 2026. No macro, syntax, notation, axiom, sorry.
-/
import Derived.Test.YtkgjaklnbgdmiaaChecked
import GoSem.Claim
import GoSem.ClaimJoined
import GoSem.ClaimMapViews
import Derived.JoinedTies
import Derived.KernelRfl
namespace Go.Proofs.Ytkgjaklnbgdmiaa
/- THE CELL 'sum', in the pinned program and in every row, IS THE sha256 OF THE DUMP (.gsa) THAT YtkgjaklnbgdmiaaProg.lean LOADS. Nothing in Lean hashes anything: it is a label: what it is worth is what the hold of that sum in a sandbox is worth. -/
noncomputable def Try.pinned : Pinned := { name := "ytkgjaklnbgdmiaa", sum := "bed42a0c2cd14678541487825f1e02811b8fb1dd471d6f47e47cb5025d8c8e1c", checked := Try.checked }
namespace Rows
def none {H : Type} : Left H := { results := [], args := [] }

/-- 'secateurlaw04.ModelCons': WHATEVER THE INPUT: true; the input reads as it did. -/
def modelConsSpec : ChangeSpec := { name := "modelCons", fn := fun _ => fun
  | [d1, d2] => { results := [.lit (.bool true)], args := [d1, d2] }
  | _ => none }
def modelConsRow : OpenClaim := { program := "ytkgjaklnbgdmiaa", sum := "bed42a0c2cd14678541487825f1e02811b8fb1dd471d6f47e47cb5025d8c8e1c", func := "secateur/secateurlaw04.ModelCons", spec := "modelCons", unfollowed := true, recurses := true, apart := false }
def ModelConsSaid : Prop := modelConsRow.holds Try.pinned (OpenSpec.ofChange modelConsSpec)

/-- ITS FALSE NEIGHBOUR: 'it returns false'. Refute it at one input. -/
def modelConsWrong : ChangeSpec := { name := "modelCons", fn := fun _ => fun
  | [d1, d2] => { results := [.lit (.bool false)], args := [d1, d2] }
  | _ => none }
def ModelConsWrongFalsely : Prop := modelConsRow.holds Try.pinned (OpenSpec.ofChange modelConsWrong)

/-- 'secateurlaw04.ModelNames': WHATEVER THE INPUT: true; the input reads as it did. -/
def modelNamesSpec : ChangeSpec := { name := "modelNames", fn := fun _ => fun
  | [d] => { results := [.lit (.bool true)], args := [d] }
  | _ => none }
def modelNamesRow : OpenClaim := { program := "ytkgjaklnbgdmiaa", sum := "bed42a0c2cd14678541487825f1e02811b8fb1dd471d6f47e47cb5025d8c8e1c", func := "secateur/secateurlaw04.ModelNames", spec := "modelNames", unfollowed := true, recurses := true, apart := false }
def ModelNamesSaid : Prop := modelNamesRow.holds Try.pinned (OpenSpec.ofChange modelNamesSpec)

/-- ITS FALSE NEIGHBOUR: 'it returns false'. Refute it at one input. -/
def modelNamesWrong : ChangeSpec := { name := "modelNames", fn := fun _ => fun
  | [d] => { results := [.lit (.bool false)], args := [d] }
  | _ => none }
def ModelNamesWrongFalsely : Prop := modelNamesRow.holds Try.pinned (OpenSpec.ofChange modelNamesWrong)

/-- 'secateurlaw04.ModelCopies': WHATEVER THE INPUT: true; the input reads as it did. -/
def modelCopiesSpec : ChangeSpec := { name := "modelCopies", fn := fun _ => fun
  | [d1, d2] => { results := [.lit (.bool true)], args := [d1, d2] }
  | _ => none }
def modelCopiesRow : OpenClaim := { program := "ytkgjaklnbgdmiaa", sum := "bed42a0c2cd14678541487825f1e02811b8fb1dd471d6f47e47cb5025d8c8e1c", func := "secateur/secateurlaw04.ModelCopies", spec := "modelCopies", unfollowed := true, recurses := true, apart := false }
def ModelCopiesSaid : Prop := modelCopiesRow.holds Try.pinned (OpenSpec.ofChange modelCopiesSpec)

/-- ITS FALSE NEIGHBOUR: 'it returns false'. Refute it at one input. -/
def modelCopiesWrong : ChangeSpec := { name := "modelCopies", fn := fun _ => fun
  | [d1, d2] => { results := [.lit (.bool false)], args := [d1, d2] }
  | _ => none }
def ModelCopiesWrongFalsely : Prop := modelCopiesRow.holds Try.pinned (OpenSpec.ofChange modelCopiesWrong)

/-- 'secateurlaw04.ModelSmaller': WHATEVER THE INPUT: true; the input reads as it did. -/
def modelSmallerSpec : ChangeSpec := { name := "modelSmaller", fn := fun _ => fun
  | [d1, d2, d3] => { results := [.lit (.bool true)], args := [d1, d2, d3] }
  | _ => none }
def modelSmallerRow : OpenClaim := { program := "ytkgjaklnbgdmiaa", sum := "bed42a0c2cd14678541487825f1e02811b8fb1dd471d6f47e47cb5025d8c8e1c", func := "secateur/secateurlaw04.ModelSmaller", spec := "modelSmaller", unfollowed := true, recurses := true, apart := false }
def ModelSmallerSaid : Prop := modelSmallerRow.holds Try.pinned (OpenSpec.ofChange modelSmallerSpec)

/-- ITS FALSE NEIGHBOUR: 'it returns false'. Refute it at one input. -/
def modelSmallerWrong : ChangeSpec := { name := "modelSmaller", fn := fun _ => fun
  | [d1, d2, d3] => { results := [.lit (.bool false)], args := [d1, d2, d3] }
  | _ => none }
def ModelSmallerWrongFalsely : Prop := modelSmallerRow.holds Try.pinned (OpenSpec.ofChange modelSmallerWrong)

/-- 'secateurlaw04.ModelOrder': WHATEVER THE INPUT: true; the input reads as it did. -/
def modelOrderSpec : ChangeSpec := { name := "modelOrder", fn := fun _ => fun
  | [d] => { results := [.lit (.bool true)], args := [d] }
  | _ => none }
def modelOrderRow : OpenClaim := { program := "ytkgjaklnbgdmiaa", sum := "bed42a0c2cd14678541487825f1e02811b8fb1dd471d6f47e47cb5025d8c8e1c", func := "secateur/secateurlaw04.ModelOrder", spec := "modelOrder", unfollowed := true, recurses := true, apart := false }
def ModelOrderSaid : Prop := modelOrderRow.holds Try.pinned (OpenSpec.ofChange modelOrderSpec)

/-- ITS FALSE NEIGHBOUR: 'it returns false'. Refute it at one input. -/
def modelOrderWrong : ChangeSpec := { name := "modelOrder", fn := fun _ => fun
  | [d] => { results := [.lit (.bool false)], args := [d] }
  | _ => none }
def ModelOrderWrongFalsely : Prop := modelOrderRow.holds Try.pinned (OpenSpec.ofChange modelOrderWrong)

/-- 'secateurlaw04.ModelUses': WHATEVER THE INPUT: true; the input reads as it did. -/
def modelUsesSpec : ChangeSpec := { name := "modelUses", fn := fun _ => fun
  | [d] => { results := [.lit (.bool true)], args := [d] }
  | _ => none }
def modelUsesRow : OpenClaim := { program := "ytkgjaklnbgdmiaa", sum := "bed42a0c2cd14678541487825f1e02811b8fb1dd471d6f47e47cb5025d8c8e1c", func := "secateur/secateurlaw04.ModelUses", spec := "modelUses", unfollowed := true, recurses := true, apart := false }
def ModelUsesSaid : Prop := modelUsesRow.holds Try.pinned (OpenSpec.ofChange modelUsesSpec)

/-- ITS FALSE NEIGHBOUR: 'it returns false'. Refute it at one input. -/
def modelUsesWrong : ChangeSpec := { name := "modelUses", fn := fun _ => fun
  | [d] => { results := [.lit (.bool false)], args := [d] }
  | _ => none }
def ModelUsesWrongFalsely : Prop := modelUsesRow.holds Try.pinned (OpenSpec.ofChange modelUsesWrong)

/-- 'secateurlaw04.ModelBig': WHATEVER THE INPUT: true; the input reads as it did. -/
def modelBigSpec : ChangeSpec := { name := "modelBig", fn := fun _ => fun
  | [d1, d2] => { results := [.lit (.bool true)], args := [d1, d2] }
  | _ => none }
def modelBigRow : OpenClaim := { program := "ytkgjaklnbgdmiaa", sum := "bed42a0c2cd14678541487825f1e02811b8fb1dd471d6f47e47cb5025d8c8e1c", func := "secateur/secateurlaw04.ModelBig", spec := "modelBig", unfollowed := true, recurses := true, apart := false }
def ModelBigSaid : Prop := modelBigRow.holds Try.pinned (OpenSpec.ofChange modelBigSpec)

/-- ITS FALSE NEIGHBOUR: 'it returns false'. Refute it at one input. -/
def modelBigWrong : ChangeSpec := { name := "modelBig", fn := fun _ => fun
  | [d1, d2] => { results := [.lit (.bool false)], args := [d1, d2] }
  | _ => none }
def ModelBigWrongFalsely : Prop := modelBigRow.holds Try.pinned (OpenSpec.ofChange modelBigWrong)

/- THE SECOND FORM. 'bulk': how many values and letters a reading holds, each counted each time it is reached (what is shared counts as often as it is met; a slice's spare places count too). A statement '..UptoSaid' is the law's where the arguments, and the package variables that the reading takes, are together of bulk at most 1048576: NARROWER than '..Said'. Prove '..Said' where nothing that the law and all that it calls make is longer than what came in: it says more and counts as full. Else prove '..UptoSaid'. A law counts once. -/
mutual
def uptoBulk {H : Type} : DataW H → Nat
  | .lit (.string bytes) => bytes.length + 1
  | .lit _ => 1
  | .nil => 1
  | .ptr d => uptoBulk d + 1
  | .slice elems spare => uptoBulkAll elems + uptoBulkAll spare + 1
  | .agg parts => uptoBulkAll parts + 1
  | .iface _ d => uptoBulk d + 1
  | .map entries => uptoBulkEntries entries + 1
  | .held _ => 1
def uptoBulkAll {H : Type} : List (DataW H) → Nat
  | [] => 0
  | d :: r => uptoBulk d + uptoBulkAll r
def uptoBulkEntries {H : Type} : List (Lit × DataW H) → Nat
  | [] => 0
  | x :: r => uptoBulkEntry x + uptoBulkEntries r
def uptoBulkEntry {H : Type} : Lit × DataW H → Nat
  | (.string bytes, d) => bytes.length + uptoBulk d + 1
  | (_, d) => uptoBulk d + 1
 end
def uptoSmall : (H : Type) → List (DataW H) → Bool := fun _ ds => decide (uptoBulkAll ds ≤ 1048576)
def OpenSpec.upto (s : _root_.Go.ChangeSpec) : _root_.Go.OpenSpec := { _root_.Go.OpenSpec.ofChange s with cond := some uptoSmall }

/-- 'secateurlaw04.ModelCons', WHERE WHAT IT READS IS OF BULK AT MOST 1048576: true; the input reads as it did. -/
def modelConsUptoRow : OpenClaim := { program := "ytkgjaklnbgdmiaa", sum := "bed42a0c2cd14678541487825f1e02811b8fb1dd471d6f47e47cb5025d8c8e1c", func := "secateur/secateurlaw04.ModelCons", spec := "modelCons", unfollowed := true, recurses := true, apart := false, narrowed := true }
def ModelConsUptoSaid : Prop := modelConsUptoRow.holds Try.pinned (OpenSpec.upto modelConsSpec)

/-- 'secateurlaw04.ModelNames', WHERE WHAT IT READS IS OF BULK AT MOST 1048576: true; the input reads as it did. -/
def modelNamesUptoRow : OpenClaim := { program := "ytkgjaklnbgdmiaa", sum := "bed42a0c2cd14678541487825f1e02811b8fb1dd471d6f47e47cb5025d8c8e1c", func := "secateur/secateurlaw04.ModelNames", spec := "modelNames", unfollowed := true, recurses := true, apart := false, narrowed := true }
def ModelNamesUptoSaid : Prop := modelNamesUptoRow.holds Try.pinned (OpenSpec.upto modelNamesSpec)

/-- 'secateurlaw04.ModelCopies', WHERE WHAT IT READS IS OF BULK AT MOST 1048576: true; the input reads as it did. -/
def modelCopiesUptoRow : OpenClaim := { program := "ytkgjaklnbgdmiaa", sum := "bed42a0c2cd14678541487825f1e02811b8fb1dd471d6f47e47cb5025d8c8e1c", func := "secateur/secateurlaw04.ModelCopies", spec := "modelCopies", unfollowed := true, recurses := true, apart := false, narrowed := true }
def ModelCopiesUptoSaid : Prop := modelCopiesUptoRow.holds Try.pinned (OpenSpec.upto modelCopiesSpec)

/-- 'secateurlaw04.ModelSmaller', WHERE WHAT IT READS IS OF BULK AT MOST 1048576: true; the input reads as it did. -/
def modelSmallerUptoRow : OpenClaim := { program := "ytkgjaklnbgdmiaa", sum := "bed42a0c2cd14678541487825f1e02811b8fb1dd471d6f47e47cb5025d8c8e1c", func := "secateur/secateurlaw04.ModelSmaller", spec := "modelSmaller", unfollowed := true, recurses := true, apart := false, narrowed := true }
def ModelSmallerUptoSaid : Prop := modelSmallerUptoRow.holds Try.pinned (OpenSpec.upto modelSmallerSpec)

/-- 'secateurlaw04.ModelOrder', WHERE WHAT IT READS IS OF BULK AT MOST 1048576: true; the input reads as it did. -/
def modelOrderUptoRow : OpenClaim := { program := "ytkgjaklnbgdmiaa", sum := "bed42a0c2cd14678541487825f1e02811b8fb1dd471d6f47e47cb5025d8c8e1c", func := "secateur/secateurlaw04.ModelOrder", spec := "modelOrder", unfollowed := true, recurses := true, apart := false, narrowed := true }
def ModelOrderUptoSaid : Prop := modelOrderUptoRow.holds Try.pinned (OpenSpec.upto modelOrderSpec)

/-- 'secateurlaw04.ModelUses', WHERE WHAT IT READS IS OF BULK AT MOST 1048576: true; the input reads as it did. -/
def modelUsesUptoRow : OpenClaim := { program := "ytkgjaklnbgdmiaa", sum := "bed42a0c2cd14678541487825f1e02811b8fb1dd471d6f47e47cb5025d8c8e1c", func := "secateur/secateurlaw04.ModelUses", spec := "modelUses", unfollowed := true, recurses := true, apart := false, narrowed := true }
def ModelUsesUptoSaid : Prop := modelUsesUptoRow.holds Try.pinned (OpenSpec.upto modelUsesSpec)

/-- 'secateurlaw04.ModelBig', WHERE WHAT IT READS IS OF BULK AT MOST 1048576: true; the input reads as it did. -/
def modelBigUptoRow : OpenClaim := { program := "ytkgjaklnbgdmiaa", sum := "bed42a0c2cd14678541487825f1e02811b8fb1dd471d6f47e47cb5025d8c8e1c", func := "secateur/secateurlaw04.ModelBig", spec := "modelBig", unfollowed := true, recurses := true, apart := false, narrowed := true }
def ModelBigUptoSaid : Prop := modelBigUptoRow.holds Try.pinned (OpenSpec.upto modelBigSpec)

end Rows
end Go.Proofs.Ytkgjaklnbgdmiaa
