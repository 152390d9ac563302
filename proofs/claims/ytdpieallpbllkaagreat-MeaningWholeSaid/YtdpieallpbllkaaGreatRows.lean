/-
  No cell of these rows narrows 'for every input' (looked for: loops, veiled, ifaces, maps, wideKeys, modest, calm, conditions, laid).
  DERIVED. THE GIVEN ROWS OF THIS SEAT. 7 by the template 'for every input the law returns true; each argument reads behind the call as it read before'; 0 by the template 'total and deterministic' (their statements: YtdpieallpbllkaaGreatTotals.lean).
  GIVEN WITH THE SEED: the statements are not yours to turn. If you find one false, say at which input.
  Laid BY PROGRAM, IN A SANDBOX (cutbox-rows.mjs): the forced cells as the released guide's own fill.sh prints them over the translation 67735a6e51726906… (all of the seat's roots in one cut). By AI agents, Wed Nov 11 2026. No macro, syntax, notation, axiom, sorry.
-/
import Derived.Test.YtdpieallpbllkaaGreatChecked
import GoSem.Claim
import GoSem.ClaimJoined
import GoSem.ClaimMapViews
import Derived.JoinedTies
import Derived.KernelRfl
namespace Go.Proofs.YtdpieallpbllkaaGreat
/- THE CELL 'sum', in the pinned program and in every row, IS THE sha256 OF THE DUMP (.gsa) THAT YtdpieallpbllkaaGreatProg.lean LOADS. Nothing in Lean hashes anything: it is a label: what it is worth is what the hold of that sum in a sandbox is worth. -/
noncomputable def Tryz.pinned : Pinned := { name := "ytdpieallpbllkaagreat", sum := "67735a6e51726906950c61e574914ef66f4d77694e15755ffe29e9da55e171d4", checked := Tryz.checked }
namespace Rows
def none {H : Type} : Left H := { results := [], args := [] }

/-- 'secateurlaw06.MeaningHolds': WHATEVER THE INPUT: true; the input reads as it did. -/
def meaningHoldsSpec : ChangeSpec := { name := "meaningHolds", fn := fun _ => fun
  | [d1, d2] => { results := [.lit (.bool true)], args := [d1, d2] }
  | _ => none }
def meaningHoldsRow : OpenClaim := { program := "ytdpieallpbllkaagreat", sum := "67735a6e51726906950c61e574914ef66f4d77694e15755ffe29e9da55e171d4", func := "secateur/secateurlaw06.MeaningHolds", spec := "meaningHolds", unfollowed := true, recurses := true, apart := false }
def MeaningHoldsSaid : Prop := meaningHoldsRow.holds Tryz.pinned (OpenSpec.ofChange meaningHoldsSpec)

/-- ITS FALSE NEIGHBOUR: 'it returns false'. Refute it at one input. -/
def meaningHoldsWrong : ChangeSpec := { name := "meaningHolds", fn := fun _ => fun
  | [d1, d2] => { results := [.lit (.bool false)], args := [d1, d2] }
  | _ => none }
def MeaningHoldsWrongFalsely : Prop := meaningHoldsRow.holds Tryz.pinned (OpenSpec.ofChange meaningHoldsWrong)

/-- 'secateurlaw06.MeaningAll': WHATEVER THE INPUT: true; the input reads as it did. -/
def meaningAllSpec : ChangeSpec := { name := "meaningAll", fn := fun _ => fun
  | [d] => { results := [.lit (.bool true)], args := [d] }
  | _ => none }
def meaningAllRow : OpenClaim := { program := "ytdpieallpbllkaagreat", sum := "67735a6e51726906950c61e574914ef66f4d77694e15755ffe29e9da55e171d4", func := "secateur/secateurlaw06.MeaningAll", spec := "meaningAll", unfollowed := true, recurses := true, apart := false }
def MeaningAllSaid : Prop := meaningAllRow.holds Tryz.pinned (OpenSpec.ofChange meaningAllSpec)

/-- ITS FALSE NEIGHBOUR: 'it returns false'. Refute it at one input. -/
def meaningAllWrong : ChangeSpec := { name := "meaningAll", fn := fun _ => fun
  | [d] => { results := [.lit (.bool false)], args := [d] }
  | _ => none }
def MeaningAllWrongFalsely : Prop := meaningAllRow.holds Tryz.pinned (OpenSpec.ofChange meaningAllWrong)

/-- 'secateurlaw06.MeaningWhole': WHATEVER THE INPUT: true; the input reads as it did. -/
def meaningWholeSpec : ChangeSpec := { name := "meaningWhole", fn := fun _ => fun
  | [d1, d2] => { results := [.lit (.bool true)], args := [d1, d2] }
  | _ => none }
def meaningWholeRow : OpenClaim := { program := "ytdpieallpbllkaagreat", sum := "67735a6e51726906950c61e574914ef66f4d77694e15755ffe29e9da55e171d4", func := "secateur/secateurlaw06.MeaningWhole", spec := "meaningWhole", unfollowed := true, recurses := true, apart := false }
def MeaningWholeSaid : Prop := meaningWholeRow.holds Tryz.pinned (OpenSpec.ofChange meaningWholeSpec)

/-- ITS FALSE NEIGHBOUR: 'it returns false'. Refute it at one input. -/
def meaningWholeWrong : ChangeSpec := { name := "meaningWhole", fn := fun _ => fun
  | [d1, d2] => { results := [.lit (.bool false)], args := [d1, d2] }
  | _ => none }
def MeaningWholeWrongFalsely : Prop := meaningWholeRow.holds Tryz.pinned (OpenSpec.ofChange meaningWholeWrong)

/-- 'secateurlaw06.MeaningLess': WHATEVER THE INPUT: true; the input reads as it did. -/
def meaningLessSpec : ChangeSpec := { name := "meaningLess", fn := fun _ => fun
  | [d1, d2] => { results := [.lit (.bool true)], args := [d1, d2] }
  | _ => none }
def meaningLessRow : OpenClaim := { program := "ytdpieallpbllkaagreat", sum := "67735a6e51726906950c61e574914ef66f4d77694e15755ffe29e9da55e171d4", func := "secateur/secateurlaw06.MeaningLess", spec := "meaningLess", unfollowed := true, recurses := true, apart := false }
def MeaningLessSaid : Prop := meaningLessRow.holds Tryz.pinned (OpenSpec.ofChange meaningLessSpec)

/-- ITS FALSE NEIGHBOUR: 'it returns false'. Refute it at one input. -/
def meaningLessWrong : ChangeSpec := { name := "meaningLess", fn := fun _ => fun
  | [d1, d2] => { results := [.lit (.bool false)], args := [d1, d2] }
  | _ => none }
def MeaningLessWrongFalsely : Prop := meaningLessRow.holds Tryz.pinned (OpenSpec.ofChange meaningLessWrong)

/-- 'secateurlaw06.MeaningGoals': WHATEVER THE INPUT: true; the input reads as it did. -/
def meaningGoalsSpec : ChangeSpec := { name := "meaningGoals", fn := fun _ => fun
  | [d1, d2] => { results := [.lit (.bool true)], args := [d1, d2] }
  | _ => none }
def meaningGoalsRow : OpenClaim := { program := "ytdpieallpbllkaagreat", sum := "67735a6e51726906950c61e574914ef66f4d77694e15755ffe29e9da55e171d4", func := "secateur/secateurlaw06.MeaningGoals", spec := "meaningGoals", unfollowed := true, recurses := true, apart := false }
def MeaningGoalsSaid : Prop := meaningGoalsRow.holds Tryz.pinned (OpenSpec.ofChange meaningGoalsSpec)

/-- ITS FALSE NEIGHBOUR: 'it returns false'. Refute it at one input. -/
def meaningGoalsWrong : ChangeSpec := { name := "meaningGoals", fn := fun _ => fun
  | [d1, d2] => { results := [.lit (.bool false)], args := [d1, d2] }
  | _ => none }
def MeaningGoalsWrongFalsely : Prop := meaningGoalsRow.holds Tryz.pinned (OpenSpec.ofChange meaningGoalsWrong)

/-- 'secateurlaw06.MeaningTruths': WHATEVER THE INPUT: true; the input reads as it did. -/
def meaningTruthsSpec : ChangeSpec := { name := "meaningTruths", fn := fun _ => fun
  | [d1, d2] => { results := [.lit (.bool true)], args := [d1, d2] }
  | _ => none }
def meaningTruthsRow : OpenClaim := { program := "ytdpieallpbllkaagreat", sum := "67735a6e51726906950c61e574914ef66f4d77694e15755ffe29e9da55e171d4", func := "secateur/secateurlaw06.MeaningTruths", spec := "meaningTruths", unfollowed := true, recurses := true, apart := false }
def MeaningTruthsSaid : Prop := meaningTruthsRow.holds Tryz.pinned (OpenSpec.ofChange meaningTruthsSpec)

/-- ITS FALSE NEIGHBOUR: 'it returns false'. Refute it at one input. -/
def meaningTruthsWrong : ChangeSpec := { name := "meaningTruths", fn := fun _ => fun
  | [d1, d2] => { results := [.lit (.bool false)], args := [d1, d2] }
  | _ => none }
def MeaningTruthsWrongFalsely : Prop := meaningTruthsRow.holds Tryz.pinned (OpenSpec.ofChange meaningTruthsWrong)

/-- 'secateurlaw06.MeaningDoms': WHATEVER THE INPUT: true; the input reads as it did. -/
def meaningDomsSpec : ChangeSpec := { name := "meaningDoms", fn := fun _ => fun
  | [d] => { results := [.lit (.bool true)], args := [d] }
  | _ => none }
def meaningDomsRow : OpenClaim := { program := "ytdpieallpbllkaagreat", sum := "67735a6e51726906950c61e574914ef66f4d77694e15755ffe29e9da55e171d4", func := "secateur/secateurlaw06.MeaningDoms", spec := "meaningDoms", unfollowed := true, recurses := true, apart := false }
def MeaningDomsSaid : Prop := meaningDomsRow.holds Tryz.pinned (OpenSpec.ofChange meaningDomsSpec)

/-- ITS FALSE NEIGHBOUR: 'it returns false'. Refute it at one input. -/
def meaningDomsWrong : ChangeSpec := { name := "meaningDoms", fn := fun _ => fun
  | [d] => { results := [.lit (.bool false)], args := [d] }
  | _ => none }
def MeaningDomsWrongFalsely : Prop := meaningDomsRow.holds Tryz.pinned (OpenSpec.ofChange meaningDomsWrong)

/- THE SECOND FORM. 'bulk': how many values and letters a reading holds, each counted each time it is reached (what is shared counts as often as it is met; a slice's spare places count too). A statement '..UptoSaid' is the law's where the arguments, and the package variables that the reading takes, are together of bulk at most 1048576: NARROWER than '..Said'. Prove '..Said' where nothing that the law and all that it calls make is longer than what came in: it says more and counts as full. Else prove '..UptoSaid'. A law counts once. -/
mutual
def uptoBulk {H : Type} : DataW H → Nat
  | .lit (.string bytes) => bytes.length + 1
  | .lit _ => 1
  | .nil => 1
  | .ptr d => uptoBulk d + 1
  | .slice elems spare => uptoBulkAll elems + uptoBulkAll spare + 1
  | .agg parts => uptoBulkAll parts + 1
  | .iface _ d => uptoBulk d + 1
  | .map entries => uptoBulkEntries entries + 1
  | .held _ => 1
def uptoBulkAll {H : Type} : List (DataW H) → Nat
  | [] => 0
  | d :: r => uptoBulk d + uptoBulkAll r
def uptoBulkEntries {H : Type} : List (Lit × DataW H) → Nat
  | [] => 0
  | x :: r => uptoBulkEntry x + uptoBulkEntries r
def uptoBulkEntry {H : Type} : Lit × DataW H → Nat
  | (.string bytes, d) => bytes.length + uptoBulk d + 1
  | (_, d) => uptoBulk d + 1
 end
def uptoSmall : (H : Type) → List (DataW H) → Bool := fun _ ds => decide (uptoBulkAll ds ≤ 1048576)
def OpenSpec.upto (s : _root_.Go.ChangeSpec) : _root_.Go.OpenSpec := { _root_.Go.OpenSpec.ofChange s with cond := some uptoSmall }

/-- 'secateurlaw06.MeaningHolds', WHERE WHAT IT READS IS OF BULK AT MOST 1048576: true; the input reads as it did. -/
def meaningHoldsUptoRow : OpenClaim := { program := "ytdpieallpbllkaagreat", sum := "67735a6e51726906950c61e574914ef66f4d77694e15755ffe29e9da55e171d4", func := "secateur/secateurlaw06.MeaningHolds", spec := "meaningHolds", unfollowed := true, recurses := true, apart := false, narrowed := true }
def MeaningHoldsUptoSaid : Prop := meaningHoldsUptoRow.holds Tryz.pinned (OpenSpec.upto meaningHoldsSpec)

/-- 'secateurlaw06.MeaningAll', WHERE WHAT IT READS IS OF BULK AT MOST 1048576: true; the input reads as it did. -/
def meaningAllUptoRow : OpenClaim := { program := "ytdpieallpbllkaagreat", sum := "67735a6e51726906950c61e574914ef66f4d77694e15755ffe29e9da55e171d4", func := "secateur/secateurlaw06.MeaningAll", spec := "meaningAll", unfollowed := true, recurses := true, apart := false, narrowed := true }
def MeaningAllUptoSaid : Prop := meaningAllUptoRow.holds Tryz.pinned (OpenSpec.upto meaningAllSpec)

/-- 'secateurlaw06.MeaningWhole', WHERE WHAT IT READS IS OF BULK AT MOST 1048576: true; the input reads as it did. -/
def meaningWholeUptoRow : OpenClaim := { program := "ytdpieallpbllkaagreat", sum := "67735a6e51726906950c61e574914ef66f4d77694e15755ffe29e9da55e171d4", func := "secateur/secateurlaw06.MeaningWhole", spec := "meaningWhole", unfollowed := true, recurses := true, apart := false, narrowed := true }
def MeaningWholeUptoSaid : Prop := meaningWholeUptoRow.holds Tryz.pinned (OpenSpec.upto meaningWholeSpec)

/-- 'secateurlaw06.MeaningLess', WHERE WHAT IT READS IS OF BULK AT MOST 1048576: true; the input reads as it did. -/
def meaningLessUptoRow : OpenClaim := { program := "ytdpieallpbllkaagreat", sum := "67735a6e51726906950c61e574914ef66f4d77694e15755ffe29e9da55e171d4", func := "secateur/secateurlaw06.MeaningLess", spec := "meaningLess", unfollowed := true, recurses := true, apart := false, narrowed := true }
def MeaningLessUptoSaid : Prop := meaningLessUptoRow.holds Tryz.pinned (OpenSpec.upto meaningLessSpec)

/-- 'secateurlaw06.MeaningGoals', WHERE WHAT IT READS IS OF BULK AT MOST 1048576: true; the input reads as it did. -/
def meaningGoalsUptoRow : OpenClaim := { program := "ytdpieallpbllkaagreat", sum := "67735a6e51726906950c61e574914ef66f4d77694e15755ffe29e9da55e171d4", func := "secateur/secateurlaw06.MeaningGoals", spec := "meaningGoals", unfollowed := true, recurses := true, apart := false, narrowed := true }
def MeaningGoalsUptoSaid : Prop := meaningGoalsUptoRow.holds Tryz.pinned (OpenSpec.upto meaningGoalsSpec)

/-- 'secateurlaw06.MeaningTruths', WHERE WHAT IT READS IS OF BULK AT MOST 1048576: true; the input reads as it did. -/
def meaningTruthsUptoRow : OpenClaim := { program := "ytdpieallpbllkaagreat", sum := "67735a6e51726906950c61e574914ef66f4d77694e15755ffe29e9da55e171d4", func := "secateur/secateurlaw06.MeaningTruths", spec := "meaningTruths", unfollowed := true, recurses := true, apart := false, narrowed := true }
def MeaningTruthsUptoSaid : Prop := meaningTruthsUptoRow.holds Tryz.pinned (OpenSpec.upto meaningTruthsSpec)

/-- 'secateurlaw06.MeaningDoms', WHERE WHAT IT READS IS OF BULK AT MOST 1048576: true; the input reads as it did. -/
def meaningDomsUptoRow : OpenClaim := { program := "ytdpieallpbllkaagreat", sum := "67735a6e51726906950c61e574914ef66f4d77694e15755ffe29e9da55e171d4", func := "secateur/secateurlaw06.MeaningDoms", spec := "meaningDoms", unfollowed := true, recurses := true, apart := false, narrowed := true }
def MeaningDomsUptoSaid : Prop := meaningDomsUptoRow.holds Tryz.pinned (OpenSpec.upto meaningDomsSpec)

end Rows
end Go.Proofs.YtdpieallpbllkaaGreat
